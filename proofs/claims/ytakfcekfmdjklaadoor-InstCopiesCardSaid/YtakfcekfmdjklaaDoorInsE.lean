/-
  The text of a problem: inst.Write, kurganref05.Write.
-/
import Derived.Test.YtakfcekfmdjklaaDoorInsD
import Derived.Test.YtakfcekfmdjklaaDoorIns4
import Derived.Test.YtakfcekfmdjklaaDoorDigX
import Derived.Test.YtakfcekfmdjklaaDoorOpenI
import Derived.Test.YtakfcekfmdjklaaDoorShelf
namespace Go.Proofs.YtakfcekfmdjklaaDoor
open Go.RowKit
def sv (n : Int) : Value := .string (bs (Lib.itoa n))
theorem sv_snoc {X : List Int} {k : Nat} (h : k < X.length) : (X.take k).map sv ++ [.string (bs (Lib.itoa (X.getD k 0)))] = (X.take (k + 1)).map sv := by
  rw [take_succ_getD X k h, List.map_append]; rfl
theorem join_any {w0 : World} {F : Nat → Prop} {L : List Ck} (oa : Option Addr) (X : List Int) (oc : Nat) (hX : 0 < X.length ∧ X.length ≤ 1000) (hb : ∀ x ∈ X, bd64 x) (w : World) (hM : Mem w0 F (own 9 1 (.slice oa X.length oc) X.length (X.map sv) :: L) w) :
    Calls Tryd.prog 59 #[.slice oa X.length oc, .string (bs [32])] w fun e w' => e = .returned (.string (bs (Lib.join (X.map Lib.itoa) [32]))) ∧ Below w.heap.size w w' := by
  obtain ⟨g, rfl⟩ := hM.ownAt (k := 0) rfl hX.1
  have e1 : (X.map fun n => bs (Lib.itoa n)).length = X.length := by simp
  have e2 : (X.map fun n => bs (Lib.itoa n)).map (fun b : ByteArray => b.data.toList) = X.map Lib.itoa := by rw [List.map_map]; rfl
  have hlen := join_len hb
  have h := Tryd.strings_Join g 0 oc (X.map fun n => bs (Lib.itoa n)) (bs [32]) w (fun j x hj => by
    rw [Nat.zero_add]
    refine hM.ownCell (k := 0) rfl ?_
    rw [List.getElem?_map] at hj ⊢
    cases hq : X[j]? with
    | none => rw [hq] at hj; cases hj
    | some n => rw [hq] at hj; cases hj; rfl) (hM.inb _ (.head _) g rfl).1 (by rw [e1]; omega) (by rw [e1]; exact (hM.ownLe (k := 0) rfl).1) (by rw [e2]; show (Lib.join (X.map Lib.itoa) [32]).length ≤ _; omega)
  rw [e1, e2] at h
  exact h
set_option maxRecDepth 100000 in
set_option maxHeartbeats 400000 in
theorem name05 (k : Int) (w : World) :
    Calls Tryd.prog 23 #[.int .i64 k] w fun e w' => e = .returned (.string (bs (nameB k))) ∧ Below w.heap.size w w' := by
  have hbs := Below.refl (B := w.heap.size) w
  have hM := Mem.start w
  refine Calls.of_ends (vs := [.int .i64 k]) Tryd.func23 rfl Tryd.ntmps23 rfl ?_
  intro a hA
  replace hA : St 10 [(0, _)] a := hA
  refine Ends.seq ?_
  refine Ends.region ?_
  refine S.val hA (R.assign rfl) rfl ?_; clear hA a; intro a hA
  refine S.done ?_
  replace hA : St 10 [(0, _)] a := hA.sub ((.cons rfl .nil))
  refine Ends.seq ?_
  refine Ends.seq ?_
  refine Ends.region ?_
  refine S.val hA (R.move rfl) rfl ?_; clear hA a; intro a hA
  refine S.done ?_
  replace hA : St 10 [(3, _)] a := hA.sub ((.cons rfl .nil))
  refine Ends.block ?_
  refine Ends.seq ?_
  refine Ends.region ?_
  refine S.val hA (R.eql rfl rfl) rfl ?_; clear hA a; intro a hA
  refine S.val hA (R.assign rfl) rfl ?_; clear hA a; intro a hA
  refine S.done ?_
  replace hA : St 10 [(3, _), (4, _)] a := hA.sub ((.cons rfl (.cons rfl .nil)))
  refine Ends.ite hA rfl (fun hc1 => ?_) (fun hc1 => ?_)
  ·
    refine Ends.seq ?_
    refine Ends.region ?_
    refine S.val hA (R.assign rfl) rfl ?_; clear hA a; intro a hA
    refine S.done ?_
    replace hA : St 10 [(2, _)] a := hA.sub ((.cons rfl .nil))
    refine Ends.ret1 Tryd.func23 Tryd.results23 hA rfl ?_
    have he : nameB k = ([75, 78, 65, 80, 83, 65, 67, 75] : List UInt8) := by unfold nameB; (repeat' split) <;> first | rfl | omega
    exact ⟨by rw [he]; rfl, Mem.trans0 hbs hM.nilL⟩
  ·
    refine Ends.seq ?_
    refine Ends.region ?_
    refine S.val hA (R.eql rfl rfl) rfl ?_; clear hA a; intro a hA
    refine S.val hA (R.assign rfl) rfl ?_; clear hA a; intro a hA
    refine S.done ?_
    replace hA : St 10 [(3, _), (6, _)] a := hA.sub ((.cons rfl (.cons rfl .nil)))
    refine Ends.ite hA rfl (fun hc2 => ?_) (fun hc2 => ?_)
    ·
      refine Ends.seq ?_
      refine Ends.region ?_
      refine S.val hA (R.assign rfl) rfl ?_; clear hA a; intro a hA
      refine S.done ?_
      replace hA : St 10 [(2, _)] a := hA.sub ((.cons rfl .nil))
      refine Ends.ret1 Tryd.func23 Tryd.results23 hA rfl ?_
      have he : nameB k = ([65, 83, 83, 73, 71, 78, 77, 69, 78, 84] : List UInt8) := by unfold nameB; (repeat' split) <;> first | rfl | omega
      exact ⟨by rw [he]; rfl, Mem.trans0 hbs hM.nilL⟩
    ·
      refine Ends.seq ?_
      refine Ends.region ?_
      refine S.val hA (R.eql rfl rfl) rfl ?_; clear hA a; intro a hA
      refine S.val hA (R.assign rfl) rfl ?_; clear hA a; intro a hA
      refine S.done ?_
      replace hA : St 10 [(8, _)] a := hA.sub ((.cons rfl .nil))
      refine Ends.ite hA rfl (fun hc3 => ?_) (fun hc3 => ?_)
      ·
        refine Ends.seq ?_
        refine Ends.region ?_
        refine S.val hA (R.assign rfl) rfl ?_; clear hA a; intro a hA
        refine S.done ?_
        replace hA : St 10 [(2, _)] a := hA.sub ((.cons rfl .nil))
        refine Ends.ret1 Tryd.func23 Tryd.results23 hA rfl ?_
        have he : nameB k = ([84, 83, 80] : List UInt8) := by unfold nameB; (repeat' split) <;> first | rfl | omega
        exact ⟨by rw [he]; rfl, Mem.trans0 hbs hM.nilL⟩
      ·
        refine Ends.skip ?_
        refine Ends.inBlock ?_
        refine Ends.seq ?_
        refine Ends.region ?_
        refine S.val hA (R.assign rfl) rfl ?_; clear hA a; intro a hA
        refine S.done ?_
        replace hA : St 10 [(2, _)] a := hA.sub ((.cons rfl .nil))
        refine Ends.ret1 Tryd.func23 Tryd.results23 hA rfl ?_
        have he : nameB k = ([] : List UInt8) := by unfold nameB; (repeat' split) <;> first | rfl | omega
        exact ⟨by rw [he]; rfl, Mem.trans0 hbs hM.nilL⟩
set_option maxRecDepth 100000 in
set_option maxHeartbeats 400000 in
theorem line05 (ax : Option Addr) (X : List Int) (cx : Nat) (hX : 0 < X.length ∧ X.length ≤ 1000) (hbx : ∀ x ∈ X, bd64 x) (w : World) (hx : IntSl w (.slice ax X.length cx) X) (htab : Lib.TabIs Tryd.prog w "internal/strconv.uint64pow10" .u64 Lib.pow10Tab) :
    Calls Tryd.prog 42 #[.slice ax X.length cx] w fun e w' => e = .returned (.string (bs (lineB X))) ∧ Below w.heap.size w w' := by
  have hbs := Below.refl (B := w.heap.size) w
  have hM := Mem.start w
  refine Calls.of_ends (vs := [.slice ax X.length cx]) Tryd.func42 rfl Tryd.ntmps42 rfl ?_
  intro a hA
  replace hA : St 21 [(0, _)] a := hA
  refine Ends.seq ?_
  refine Ends.region ?_
  refine S.val hA (R.assign rfl) rfl ?_; clear hA a; intro a hA
  refine S.done ?_
  replace hA : St 21 [(0, _)] a := hA.sub ((.cons rfl .nil))
  refine Ends.seq ?_
  refine Ends.region ?_
  refine S.val hA (R.assign rfl) rfl ?_; clear hA a; intro a hA
  refine S.done ?_
  replace hA : St 21 [(0, _), (3, _)] a := hA.sub ((.cons rfl (.cons rfl .nil)))
  refine Ends.seq ?_
  refine Ends.seq ?_
  refine Ends.region ?_
  refine S.val hA (R.move rfl) rfl ?_; clear hA a; intro a hA
  refine S.val hA (R.lenS Tryd.underlying22 rfl rfl) rfl ?_; clear hA a; intro a hA
  refine S.val hA (R.move rfl) rfl ?_; clear hA a; intro a hA
  refine S.done ?_
  replace hA : St 21 [(3, _), (6, _), (7, _), (8, _)] a := hA.sub ((.cons rfl (.cons rfl (.cons rfl (.cons rfl .nil)))))
  refine Ends.block ?_
  replace hM := hM.ownNil 9 1
  replace hM : Mem _ _ [own 9 1 (.slice none 0 0) 0 (((X.take 0).map sv))] _ := hM
  refine Ends.loop (σ := Nat × Option Addr × Nat) (fun (k, ao, co) (a : Act) (wv : World) => St 21 [(3, .slice ao k co), (6, .slice ax X.length cx), (7, .int .i64 ((X.length : Int))), (8, .int .i64 ((k : Int)))] a ∧ Mem w nof [own 9 1 (.slice ao k co) k (((X.take k).map sv))] wv ∧ (k ≤ X.length)) (fun (k, ao, co) => X.length - k) ((0, none, 0)) ⟨hA.sub ((.cons rfl (.cons rfl (.cons rfl (.cons rfl .nil))))), hM, (Nat.zero_le _)⟩ ?_
  clear hA hM a
  rintro ⟨k, ao, co⟩ a w1 ⟨hA, hM, hk⟩ hNext
  refine Ends.seq ?_
  refine Ends.region ?_
  refine S.val hA (R.lss rfl rfl) rfl ?_; clear hA a; intro a hA
  refine S.done ?_
  replace hA : St 21 [(3, _), (6, _), (7, _), (8, _), (9, _)] a := hA.sub ((.cons rfl (.cons rfl (.cons rfl (.cons rfl (.cons rfl .nil))))))
  refine Ends.seq ?_
  refine Ends.ite hA rfl (fun hc1 => ?_) (fun hc1 => ?_)
  ·
    have hxk : bd64 (X.getD k 0) := hbx _ (getD_mem (by omega))
    unfold bd64 at hxk
    refine Ends.skip ?_
    refine Ends.seq ?_
    refine Ends.block ?_
    refine Ends.seq ?_
    refine Ends.region ?_
    refine S.val hA (R.idxI hx (j := k) sl22 rfl rfl (by omega) (rfl)) rfl ?_; clear hA a; intro a hA
    refine S.val hA (R.loadI (hx.mem hM) sz3 rfl (by omega)) rfl ?_; clear hA a; intro a hA
    refine S.val hA (R.assign rfl) rfl ?_; clear hA a; intro a hA
    refine S.done ?_
    replace hA : St 21 [(3, _), (5, _), (6, _), (7, _), (8, _)] a := hA.sub ((.cons rfl (.cons rfl (.cons rfl (.cons rfl (.cons rfl .nil))))))
    refine Ends.region ?_
    refine S.val hA (R.move rfl) rfl ?_; clear hA a; intro a hA
    refine S.val hA (R.move rfl) rfl ?_; clear hA a; intro a hA
    refine S.call hA (R.callF Tryd.func43 rfl rfl rfl) rfl (write_any (X.getD k 0) (by omega) _ (tab_below htab (Mem.trans0 hbs hM.nilL))) ?_; clear hA a
    rintro e w2 ⟨rfl, hb⟩
    replace hM := hM.callB hb; clear hb
    refine ⟨.string ((bs (Lib.itoa (X.getD k 0)))), rfl, fun a hA => ?_⟩
    refine S.buildSl (cells := #[.string ((bs (Lib.itoa (X.getD k 0))))]) hA hM Tryd.underlying34 info9 rfl rfl rfl rfl (by kernel_rfl) rfl ?_; clear hA hM a; intro b2 w3 hb3 hM a hA
    replace hM : Mem _ _ [pt b2 #[.string ((bs (Lib.itoa (X.getD k 0))))] 9, own 9 1 (.slice ao k co) k (((X.take k).map sv))] _ := hM
    refine S.append (k := 1) (k2 := 0) hA hM rfl rfl Tryd.underlying34 info9 rfl rfl rfl rfl rfl rfl rfl rfl rfl (by first | (unfold maxLen; omega) | (show (_ + 1) * 16 ≤ (140737488355328 : Nat); omega)) (by first | (unfold maxLen; omega) | (show (_ + 1) * 16 ≤ (140737488355328 : Nat); omega)) rfl ?_; clear hA hM a; intro a4 c5 w4 hM a hA
    replace hM : Mem _ _ [pt b2 #[.string ((bs (Lib.itoa (X.getD k 0))))] 9, own 9 1 (.slice a4 (k + 1) c5) (k + 1) ((((X.take k).map sv) ++ [.string ((bs (Lib.itoa (X.getD k 0))))]))] _ := hM
    replace hM := hM.drop 0
    replace hM : Mem _ _ [own 9 1 (.slice a4 (k + 1) c5) (k + 1) ((((X.take k).map sv) ++ [.string ((bs (Lib.itoa (X.getD k 0))))]))] _ := hM
    refine S.val hA (R.assign rfl) rfl ?_; clear hA a; intro a hA
    refine S.done ?_
    replace hA : St 21 [(3, _), (6, _), (7, _), (8, _)] a := hA.sub ((.cons rfl (.cons rfl (.cons rfl (.cons rfl .nil)))))
    refine Ends.inBlock ?_
    refine Ends.region ?_
    refine S.val hA (R.addI rfl rfl (r := ((k : Int)) + 1) rfl (by omega)) rfl ?_; clear hA a; intro a hA
    refine S.val hA (R.move rfl) rfl ?_; clear hA a; intro a hA
    refine S.done ?_
    replace hA : St 21 [(3, _), (6, _), (7, _), (8, _)] a := hA.sub ((.cons rfl (.cons rfl (.cons rfl (.cons rfl .nil)))))
    replace hM := hM.firstN 1
    rw [sv_snoc (by omega)] at hM
    exact hNext ((k + 1, a4, c5)) _ _ ((by show X.length - (k + 1) < X.length - k; omega)) ⟨hA.sub ((.cons rfl (.cons rfl (.cons rfl (.cons rfl .nil))))), hM, (by omega)⟩
  ·
    obtain rfl : k = X.length := by omega
    rw [List.take_length] at hM
    have hjl := join_len hbx
    refine Ends.exit rfl ?_
    replace hA : St 21 [(3, _)] a := hA.sub ((.cons rfl .nil))
    refine Ends.seq ?_
    refine Ends.region ?_
    refine S.val hA (R.move rfl) rfl ?_; clear hA a; intro a hA
    refine S.call hA (R.callF Tryd.func59 rfl rfl rfl) rfl (join_any ao X co hX hbx _ hM) ?_; clear hA a
    rintro e w5 ⟨rfl, hb⟩
    replace hM := hM.callB hb; clear hb
    refine ⟨.string ((bs ((Lib.join (X.map Lib.itoa) [32])))), rfl, fun a hA => ?_⟩
    refine S.val hA (R.to (v := .string (bs ((Lib.join (X.map Lib.itoa) [32]) ++ ([10] : List UInt8)))) (R.addS rfl rfl (by show (bs ((Lib.join (X.map Lib.itoa) [32]))).size + (bs (([10] : List UInt8))).size ≤ _; simp only [bs_size, List.length_append, List.length_cons, List.length_nil]; omega)) (congrArg Value.string (bs_app ((Lib.join (X.map Lib.itoa) [32])) (([10] : List UInt8))))) rfl ?_; clear hA a; intro a hA
    refine S.val hA (R.assign rfl) rfl ?_; clear hA a; intro a hA
    refine S.done ?_
    replace hA : St 21 [(2, _)] a := hA.sub ((.cons rfl .nil))
    refine Ends.ret1 Tryd.func42 Tryd.results42 hA rfl ?_
    exact ⟨rfl, Mem.trans0 hbs hM.nilL⟩
theorem bd_list1 {a : Int} (h : bd64 a) : ∀ x ∈ [a], bd64 x := fun x hx => by rcases List.mem_cons.1 hx with rfl | hx; exact h; cases hx
theorem bd_list2 {a b : Int} (h : bd64 a) (g : bd64 b) : ∀ x ∈ [a, b], bd64 x := fun x hx => by
  rcases List.mem_cons.1 hx with rfl | hx
  · exact h
  · exact bd_list1 g x hx
theorem chk_inF {i : Ins} (h : chk i = 0) : InF i := by
  unfold chk at h
  split at h
  · rename_i q; exact absurd h q
  · rename_i q
    split at h
    · rename_i q2; exact inF_of (Decidable.not_not.1 q) q2 h
    · cases h
def wtxt (i : Ins) : List UInt8 := if chk i = 0 then textB i else []
theorem nameB_len (k : Int) : (nameB k).length ≤ 10 := by unfold nameB; (repeat' split) <;> decide
set_option maxRecDepth 100000 in
set_option maxHeartbeats 400000 in
theorem write05 (i : Ins) (ax3 : Option Addr) (cx3 : Nat) (ax4 : Option Addr) (cx4 : Nat) (ax5 : Option Addr) (cx5 : Nat) (hsm : i.wt.length ≤ 1000000 ∧ i.vl.length ≤ 1000000) (w : World) (hx3 : IntSl w (.slice ax3 i.wt.length cx3) i.wt) (hx4 : IntSl w (.slice ax4 i.vl.length cx4) i.vl) (hx5 : RowsV w (.slice ax5 i.cost.length cx5) i.cost) (htab : Lib.TabIs Tryd.prog w "internal/strconv.uint64pow10" .u64 Lib.pow10Tab) :
    Calls Tryd.prog 20 #[.agg #[.int .i64 i.kind, .int .i64 i.n, .int .i64 i.cap, .slice ax3 i.wt.length cx3, .slice ax4 i.vl.length cx4, .slice ax5 i.cost.length cx5]] w fun e w' => e = .returned (.tuple #[.string (bs (wtxt i)), .int .i64 (chk i)]) ∧ Below w.heap.size w w' := by
  have hbs := Below.refl (B := w.heap.size) w
  have hl5 := hx5.lenB
  have hM := Mem.start w
  refine Calls.of_ends (vs := [.agg #[.int .i64 i.kind, .int .i64 i.n, .int .i64 i.cap, .slice ax3 i.wt.length cx3, .slice ax4 i.vl.length cx4, .slice ax5 i.cost.length cx5]]) Tryd.func20 rfl Tryd.ntmps20 rfl ?_
  intro a hA
  replace hA : St 81 [(0, _)] a := hA
  refine Ends.seq ?_
  refine Ends.region ?_
  refine S.box hA hM rfl rfl ?_; clear hA hM a; intro b1 w1 hb2 hM a hA
  replace hM : Mem _ _ [pt b1 #[.int .i64 i.kind, .int .i64 i.n, .int .i64 i.cap, .slice ax3 i.wt.length cx3, .slice ax4 i.vl.length cx4, .slice ax5 i.cost.length cx5] 25] _ := hM
  refine S.val hA (R.assign rfl) rfl ?_; clear hA a; intro a hA
  refine S.val hA (R.assign rfl) rfl ?_; clear hA a; intro a hA
  refine S.done ?_
  replace hA : St 81 [(1, _)] a := hA.sub ((.cons rfl .nil))
  refine Ends.seq ?_
  refine Ends.seq ?_
  refine Ends.region ?_
  refine S.val hA (R.loadA sz25 rfl (hM.range (k := 0) rfl) rfl) rfl ?_; clear hA a; intro a hA
  refine S.call hA (R.callF Tryd.func18 rfl rfl rfl) rfl (check05 i ax3 cx3 ax4 cx4 ax5 cx5 hsm _ (hx3.mem hM) (hx4.mem hM) (hx5.mem hM)) ?_; clear hA a
  rintro e w2 ⟨rfl, hb⟩
  replace hM := hM.callB hb; clear hb
  refine ⟨.int .i64 (chk i), rfl, fun a hA => ?_⟩
  refine S.val hA (R.assign rfl) rfl ?_; clear hA a; intro a hA
  refine S.done ?_
  replace hA : St 81 [(1, _), (4, _)] a := hA.sub ((.cons rfl (.cons rfl .nil)))
  refine Ends.seq ?_
  refine Ends.region ?_
  refine S.val hA (R.move rfl) rfl ?_; clear hA a; intro a hA
  refine S.val hA (R.neq rfl rfl) rfl ?_; clear hA a; intro a hA
  refine S.done ?_
  replace hA : St 81 [(1, _), (4, _), (12, _)] a := hA.sub ((.cons rfl (.cons rfl (.cons rfl .nil))))
  refine Ends.ite hA rfl (fun hc3 => ?_) (fun hc3 => ?_)
  ·
    refine Ends.seq ?_
    refine Ends.region ?_
    refine S.val hA (R.move rfl) rfl ?_; clear hA a; intro a hA
    refine S.val hA (R.assign rfl) rfl ?_; clear hA a; intro a hA
    refine S.val hA (R.assign rfl) rfl ?_; clear hA a; intro a hA
    refine S.done ?_
    replace hA : St 81 [(1, _), (2, _), (3, _)] a := hA.sub ((.cons rfl (.cons rfl (.cons rfl .nil))))
    refine Ends.ret2 Tryd.func20 Tryd.results20 hA rfl rfl ?_
    exact ⟨by unfold wtxt; rw [if_neg hc3]; rfl, Mem.trans0 hbs hM.nilL⟩
  ·
    have hz : chk i = 0 := Decidable.not_not.1 hc3
    have hF := chk_inF hz
    have f1 := hF.kind
    have f2 := hF.n1
    have f3 := hF.n64
    have f4 := hF.cap
    have f5 := hF.wt
    have f6 := hF.vl
    have f7 := hF.cost
    have f8 := hF.n24
    have hnl := nameB_len i.kind
    have hni := itoa_len' (n := i.n) (by unfold bd64; omega)
    have hnc := itoa_len' (n := i.cap) (by unfold bd64; omega)
    refine Ends.skip ?_
    refine Ends.seq ?_
    refine Ends.region ?_
    refine S.val hA (R.fieldAddr (q := 0) fi25_0 rfl rfl rfl) rfl ?_; clear hA a; intro a hA
    refine S.val hA (R.load sz3 rfl (hM.cell (k := 0) rfl rfl)) rfl ?_; clear hA a; intro a hA
    refine S.call hA (R.callF Tryd.func23 rfl rfl rfl) rfl (name05 i.kind _) ?_; clear hA a
    rintro e w3 ⟨rfl, hb⟩
    replace hM := hM.callB hb; clear hb
    refine ⟨.string ((bs (nameB i.kind))), rfl, fun a hA => ?_⟩
    refine S.val hA (R.to (v := .string (bs (nameB i.kind ++ ([32] : List UInt8)))) (R.addS rfl rfl (by show (bs (nameB i.kind)).size + (bs (([32] : List UInt8))).size ≤ _; simp only [bs_size, List.length_append, List.length_cons, List.length_nil]; omega)) (congrArg Value.string (bs_app (nameB i.kind) (([32] : List UInt8))))) rfl ?_; clear hA a; intro a hA
    refine S.val hA (R.assign rfl) rfl ?_; clear hA a; intro a hA
    refine S.done ?_
    replace hA : St 81 [(1, _), (5, _)] a := hA.sub ((.cons rfl (.cons rfl .nil)))
    refine Ends.seq ?_
    refine Ends.seq ?_
    refine Ends.region ?_
    refine S.val hA (R.fieldAddr (q := 0) fi25_0 rfl rfl rfl) rfl ?_; clear hA a; intro a hA
    refine S.val hA (R.load sz3 rfl (hM.cell (k := 0) rfl rfl)) rfl ?_; clear hA a; intro a hA
    refine S.done ?_
    replace hA : St 81 [(1, _), (5, _), (19, _)] a := hA.sub ((.cons rfl (.cons rfl (.cons rfl .nil))))
    refine Ends.block ?_
    refine Ends.seq ?_
    refine Ends.region ?_
    refine S.val hA (R.eql rfl rfl) rfl ?_; clear hA a; intro a hA
    refine S.val hA (R.assign rfl) rfl ?_; clear hA a; intro a hA
    refine S.done ?_
    replace hA : St 81 [(1, _), (5, _), (19, _), (20, _)] a := hA.sub ((.cons rfl (.cons rfl (.cons rfl (.cons rfl .nil)))))
    refine Ends.ite hA rfl (fun hc4 => ?_) (fun hc4 => ?_)
    ·
      have hk1 := hc4
      rw [if_pos hk1] at f5 f6 f7
      have hhl := lineB_len (l := [i.n, i.cap]) (bd_list2 (by unfold bd64; omega) (by unfold bd64; omega))
      simp only [List.length_cons, List.length_nil] at hhl
      refine Ends.seq ?_
      refine Ends.region ?_
      refine S.val hA (R.move rfl) rfl ?_; clear hA a; intro a hA
      refine S.val hA (R.fieldAddr (q := 1) fi25_1 rfl rfl rfl) rfl ?_; clear hA a; intro a hA
      refine S.val hA (R.load sz3 rfl (hM.cell (k := 0) rfl rfl)) rfl ?_; clear hA a; intro a hA
      refine S.val hA (R.fieldAddr (q := 2) fi25_2 rfl rfl rfl) rfl ?_; clear hA a; intro a hA
      refine S.val hA (R.load sz3 rfl (hM.cell (k := 0) rfl rfl)) rfl ?_; clear hA a; intro a hA
      refine S.buildSl (cells := #[.int .i64 i.n, .int .i64 i.cap]) hA hM Tryd.underlying22 info3 rfl rfl rfl rfl (by kernel_rfl) rfl ?_; clear hA hM a; intro b5 w4 hb6 hM a hA
      replace hM : Mem _ _ [pt b5 #[.int .i64 i.n, .int .i64 i.cap] 3, pt b1 #[.int .i64 i.kind, .int .i64 i.n, .int .i64 i.cap, .slice ax3 i.wt.length cx3, .slice ax4 i.vl.length cx4, .slice ax5 i.cost.length cx5] 25] _ := hM
      have hq7 := hM.ptRs (k := 0) (X := ([i.n, i.cap] : List Int)) rfl (by simp)
      refine S.call hA (R.callF Tryd.func42 rfl rfl rfl) rfl (line05 (some ⟨b5, 0, none⟩) ([i.n, i.cap] : List Int) 2 (by simp) (bd_list2 (by unfold bd64; omega) (by unfold bd64; omega)) _ hq7 (tab_below htab (Mem.trans0 hbs hM.nilL))) ?_; clear hA a
      rintro e w5 ⟨rfl, hb⟩
      replace hM := hM.callB hb; clear hb
      refine ⟨.string ((bs (lineB ([i.n, i.cap] : List Int)))), rfl, fun a hA => ?_⟩
      refine S.val hA (R.to (v := .string (bs ((nameB i.kind ++ ([32] : List UInt8)) ++ lineB ([i.n, i.cap] : List Int)))) (R.addS rfl rfl (by show (bs ((nameB i.kind ++ ([32] : List UInt8)))).size + (bs (lineB ([i.n, i.cap] : List Int))).size ≤ _; simp only [bs_size, List.length_append, List.length_cons, List.length_nil]; omega)) (congrArg Value.string (bs_app ((nameB i.kind ++ ([32] : List UInt8))) (lineB ([i.n, i.cap] : List Int))))) rfl ?_; clear hA a; intro a hA
      refine S.val hA (R.assign rfl) rfl ?_; clear hA a; intro a hA
      refine S.done ?_
      replace hA : St 81 [(1, _), (5, _)] a := hA.sub ((.cons rfl (.cons rfl .nil)))
      refine Ends.seq ?_
      refine Ends.region ?_
      refine S.val hA (R.fieldAddr (q := 1) fi25_1 rfl rfl rfl) rfl ?_; clear hA a; intro a hA
      refine S.val hA (R.load sz3 rfl (hM.cell (k := 1) rfl rfl)) rfl ?_; clear hA a; intro a hA
      refine S.val hA (R.move rfl) rfl ?_; clear hA a; intro a hA
      refine S.done ?_
      replace hA : St 81 [(1, _), (5, _), (31, _), (32, _)] a := hA.sub ((.cons rfl (.cons rfl (.cons rfl (.cons rfl .nil)))))
      refine Ends.block ?_
      rw [show bs (((nameB i.kind ++ ([32] : List UInt8)) ++ lineB ([i.n, i.cap] : List Int))) = bs (((nameB i.kind ++ ([32] : List UInt8)) ++ lineB ([i.n, i.cap] : List Int)) ++ itemsB i 0) by simp [itemsB]] at hA
      refine Ends.loop (σ := Nat) (fun k (a : Act) (wv : World) => St 81 [(1, .pointer (some ⟨b1, 0, none⟩)), (5, .string ((bs ((((nameB i.kind ++ ([32] : List UInt8)) ++ lineB ([i.n, i.cap] : List Int)) ++ itemsB i k))))), (31, .int .i64 i.n), (32, .int .i64 ((k : Int)))] a ∧ Mem w nof [pt b5 #[.int .i64 i.n, .int .i64 i.cap] 3, pt b1 #[.int .i64 i.kind, .int .i64 i.n, .int .i64 i.cap, .slice ax3 i.wt.length cx3, .slice ax4 i.vl.length cx4, .slice ax5 i.cost.length cx5] 25] wv ∧ (k ≤ i.n.toNat)) (fun k => i.n.toNat - k) 0 ⟨hA.sub ((.cons rfl (.cons rfl (.cons rfl (.cons rfl .nil))))), hM, (Nat.zero_le _)⟩ ?_
      clear hA hM a
      rintro k a w6 ⟨hA, hM, hk⟩ hNext
      refine Ends.seq ?_
      refine Ends.region ?_
      refine S.val hA (R.lss rfl rfl) rfl ?_; clear hA a; intro a hA
      refine S.done ?_
      replace hA : St 81 [(1, _), (5, _), (31, _), (32, _), (33, _)] a := hA.sub ((.cons rfl (.cons rfl (.cons rfl (.cons rfl (.cons rfl .nil))))))
      refine Ends.seq ?_
      refine Ends.ite hA rfl (fun hc8 => ?_) (fun hc8 => ?_)
      ·
        have g1 := hF.wtr k
        have g2 := hF.vlr k
        have hil := itemsB_len hF k
        refine Ends.skip ?_
        refine Ends.seq ?_
        refine Ends.block ?_
        refine Ends.seq ?_
        refine Ends.region ?_
        refine S.val hA (R.move rfl) rfl ?_; clear hA a; intro a hA
        refine S.val hA (R.assign rfl) rfl ?_; clear hA a; intro a hA
        refine S.done ?_
        replace hA : St 81 [(1, _), (5, _), (6, _), (31, _), (32, _)] a := hA.sub ((.cons rfl (.cons rfl (.cons rfl (.cons rfl (.cons rfl .nil))))))
        refine Ends.drawn (Mem w nof [pt b5 #[.int .i64 i.n, .int .i64 i.cap] 3, pt b1 #[.int .i64 i.kind, .int .i64 i.n, .int .i64 i.cap, .slice ax3 i.wt.length cx3, .slice ax4 i.vl.length cx4, .slice ax5 i.cost.length cx5] 25]) (.cons (0, true) (.cons (1, true) (.cons (2, true) (.cons (3, true) (.cons (4, true) (.cons (5, true) (.cons (6, true) (.cons (7, true) (.cons (8, true) (.cons (9, true) (.cons (10, true) (.cons (11, false) (.cons (12, false) (.cons (13, true) (.cons (14, true) .nil))))))))))))))) 15 mixed (by kernel_rfl) (by kernel_rfl) (by kernel_rfl) hM.drew ?_
        replace hM := hM.drew
        refine D.valF hA rfl (fun _ => R.move rfl) rfl ?_; clear hA a; intro a hA
        refine D.valF hA rfl (fun _ => R.fieldAddr (q := 3) fi25_3 rfl rfl rfl) rfl ?_; clear hA a; intro a hA
        refine D.val hA rfl (by kernel_rfl) (fun _ hM => R.load sz22 rfl (hM.cell (k := 1) rfl rfl)) rfl ?_; clear hA a; intro a hA
        refine D.valF hA rfl (fun _ => R.move rfl) rfl ?_; clear hA a; intro a hA
        refine D.valF hA rfl (fun _ => R.idxI hx3 (j := k) sl22 rfl rfl (by omega) (rfl)) rfl ?_; clear hA a; intro a hA
        refine D.val hA rfl (by kernel_rfl) (fun _ hM => R.loadI (hx3.mem hM) sz3 rfl (by omega)) rfl ?_; clear hA a; intro a hA
        refine D.valF hA rfl (fun _ => R.fieldAddr (q := 4) fi25_4 rfl rfl rfl) rfl ?_; clear hA a; intro a hA
        refine D.val hA rfl (by kernel_rfl) (fun _ hM => R.load sz22 rfl (hM.cell (k := 1) rfl rfl)) rfl ?_; clear hA a; intro a hA
        refine D.valF hA rfl (fun _ => R.move rfl) rfl ?_; clear hA a; intro a hA
        refine D.valF hA rfl (fun _ => R.idxI hx4 (j := k) sl22 rfl rfl (by omega) (rfl)) rfl ?_; clear hA a; intro a hA
        refine D.val hA rfl (by kernel_rfl) (fun _ hM => R.loadI (hx4.mem hM) sz3 rfl (by omega)) rfl ?_; clear hA a; intro a hA
        refine D.buildSl (cells := #[.int .i64 (i.wt.getD k 0), .int .i64 (i.vl.getD k 0)]) hA hM rfl Tryd.underlying22 info3 rfl rfl rfl rfl (by kernel_rfl) rfl ?_; clear hA hM a; intro b9 w7 hb10 hM; refine ⟨hM.tail, fun a hA => ?_⟩
        replace hM : Mem _ _ [pt b9 #[.int .i64 (i.wt.getD k 0), .int .i64 (i.vl.getD k 0)] 3, pt b5 #[.int .i64 i.n, .int .i64 i.cap] 3, pt b1 #[.int .i64 i.kind, .int .i64 i.n, .int .i64 i.cap, .slice ax3 i.wt.length cx3, .slice ax4 i.vl.length cx4, .slice ax5 i.cost.length cx5] 25] _ := hM
        have hq11 := hM.ptRs (k := 0) (X := ([i.wt.getD k 0, i.vl.getD k 0] : List Int)) rfl (by simp)
        have hll := lineB_len (l := ([i.wt.getD k 0, i.vl.getD k 0] : List Int)) (bd_list2 (by unfold bd64; omega) (by unfold bd64; omega))
        simp only [List.length_cons, List.length_nil] at hll
        refine D.call hA rfl (R.callF Tryd.func42 rfl rfl rfl) rfl (line05 (some ⟨b9, 0, none⟩) ([i.wt.getD k 0, i.vl.getD k 0] : List Int) 2 (by simp) (bd_list2 (by unfold bd64; omega) (by unfold bd64; omega)) _ hq11 (tab_below htab (Mem.trans0 hbs hM.nilL))) ?_; clear hA a
        rintro e w8 ⟨rfl, hb⟩
        replace hM := hM.callB hb; clear hb
        refine ⟨.string ((bs (lineB ([i.wt.getD k 0, i.vl.getD k 0] : List Int)))), rfl, (hM.drop 0), fun a hA => ?_⟩
        refine D.valF hA rfl (fun _ => R.to (v := .string (bs ((((nameB i.kind ++ ([32] : List UInt8)) ++ lineB ([i.n, i.cap] : List Int)) ++ itemsB i k) ++ lineB ([i.wt.getD k 0, i.vl.getD k 0] : List Int)))) (R.addS rfl rfl (by show (bs ((((nameB i.kind ++ ([32] : List UInt8)) ++ lineB ([i.n, i.cap] : List Int)) ++ itemsB i k))).size + (bs (lineB ([i.wt.getD k 0, i.vl.getD k 0] : List Int))).size ≤ _; simp only [bs_size, List.length_append, List.length_cons, List.length_nil]; omega)) (congrArg Value.string (bs_app ((((nameB i.kind ++ ([32] : List UInt8)) ++ lineB ([i.n, i.cap] : List Int)) ++ itemsB i k)) (lineB ([i.wt.getD k 0, i.vl.getD k 0] : List Int))))) rfl ?_; clear hA a; intro a hA
        refine D.valF hA rfl (fun _ => R.assign rfl) rfl ?_; clear hA a; intro a hA
        refine D.done ?_
        replace hA : St 81 [(1, _), (5, _), (31, _), (32, _)] a := hA.sub ((.cons rfl (.cons rfl (.cons rfl (.cons rfl .nil)))))
        refine Ends.inBlock ?_
        refine Ends.region ?_
        refine S.val hA (R.addI rfl rfl (r := ((k : Int)) + 1) rfl (by omega)) rfl ?_; clear hA a; intro a hA
        refine S.val hA (R.move rfl) rfl ?_; clear hA a; intro a hA
        refine S.done ?_
        replace hA : St 81 [(1, _), (5, _), (31, _), (32, _)] a := hA.sub ((.cons rfl (.cons rfl (.cons rfl (.cons rfl .nil)))))
        replace hM := hM.drop 0
        replace hM : Mem _ _ [pt b5 #[.int .i64 i.n, .int .i64 i.cap] 3, pt b1 #[.int .i64 i.kind, .int .i64 i.n, .int .i64 i.cap, .slice ax3 i.wt.length cx3, .slice ax4 i.vl.length cx4, .slice ax5 i.cost.length cx5] 25] _ := hM
        rw [List.append_assoc ((nameB i.kind ++ ([32] : List UInt8)) ++ lineB ([i.n, i.cap] : List Int))] at hA
        exact hNext ((k + 1)) _ _ ((by show i.n.toNat - (k + 1) < i.n.toNat - k; omega)) ⟨hA.sub ((.cons rfl (.cons rfl (.cons rfl (.cons rfl .nil))))), hM, (by omega)⟩
      ·
        obtain rfl : k = i.n.toNat := by omega
        have hil := itemsB_len hF i.n.toNat
        refine Ends.exit rfl ?_
        replace hA : St 81 [(1, _), (5, _)] a := hA.sub ((.cons rfl (.cons rfl .nil)))
        refine Ends.inBlock ?_
        refine Ends.seq ?_
        refine Ends.seq ?_
        refine Ends.region ?_
        refine S.val hA (R.fieldAddr (q := 5) fi25_5 rfl rfl rfl) rfl ?_; clear hA a; intro a hA
        refine S.val hA (R.load sz23 rfl (hM.cell (k := 1) rfl rfl)) rfl ?_; clear hA a; intro a hA
        refine S.val hA (R.lenS Tryd.underlying23 rfl rfl) rfl ?_; clear hA a; intro a hA
        refine S.val hA (R.move rfl) rfl ?_; clear hA a; intro a hA
        refine S.done ?_
        replace hA : St 81 [(5, _), (69, _), (70, _), (71, _)] a := hA.sub ((.cons rfl (.cons rfl (.cons rfl (.cons rfl .nil)))))
        refine Ends.block ?_
        rw [show bs ((((nameB i.kind ++ ([32] : List UInt8)) ++ lineB ([i.n, i.cap] : List Int)) ++ itemsB i i.n.toNat)) = bs ((((nameB i.kind ++ ([32] : List UInt8)) ++ lineB ([i.n, i.cap] : List Int)) ++ itemsB i i.n.toNat) ++ rowsB i 0) by simp [rowsB]] at hA
        refine Ends.loop (σ := Nat) (fun r (a : Act) (wv : World) => St 81 [(5, .string ((bs (((((nameB i.kind ++ ([32] : List UInt8)) ++ lineB ([i.n, i.cap] : List Int)) ++ itemsB i i.n.toNat) ++ rowsB i r))))), (69, .slice ax5 i.cost.length cx5), (70, .int .i64 ((i.cost.length : Int))), (71, .int .i64 ((r : Int)))] a ∧ Mem w nof [pt b5 #[.int .i64 i.n, .int .i64 i.cap] 3, pt b1 #[.int .i64 i.kind, .int .i64 i.n, .int .i64 i.cap, .slice ax3 i.wt.length cx3, .slice ax4 i.vl.length cx4, .slice ax5 i.cost.length cx5] 25] wv ∧ (r ≤ i.cost.length)) (fun r => i.cost.length - r) 0 ⟨hA.sub ((.cons rfl (.cons rfl (.cons rfl (.cons rfl .nil))))), hM, (Nat.zero_le _)⟩ ?_
        clear hA hM a
        rintro r a w9 ⟨hA, hM, hr⟩ hNext1
        refine Ends.seq ?_
        refine Ends.region ?_
        refine S.val hA (R.lss rfl rfl) rfl ?_; clear hA a; intro a hA
        refine S.done ?_
        replace hA : St 81 [(5, _), (69, _), (70, _), (71, _), (72, _)] a := hA.sub ((.cons rfl (.cons rfl (.cons rfl (.cons rfl (.cons rfl .nil))))))
        refine Ends.seq ?_
        refine Ends.ite hA rfl (fun hc12 => ?_) (fun hc12 => ?_)
        ·
          have hrl := rowsB_len hF r (by omega)
          have hbr := hF.rowbd r
          have hrr := hF.row r (by omega)
          have hll := lineB_len hbr
          refine Ends.skip ?_
          refine Ends.seq ?_
          refine Ends.block ?_
          refine Ends.seq ?_
          refine Ends.region ?_
          refine S.val hA (R.idxR hx5 (j := r) sl23 rfl rfl (by omega) (rfl)) rfl ?_; clear hA a; intro a hA
          obtain ⟨ra13, rc14, hrow15, hld16⟩ := hx5.atP (i := r) (by omega)
          refine S.val hA (hld16 _ _ _ _ _ _ hM sz22 rfl) rfl ?_; clear hA a; intro a hA
          refine S.val hA (R.assign rfl) rfl ?_; clear hA a; intro a hA
          refine S.done ?_
          replace hA : St 81 [(5, _), (8, _), (69, _), (70, _), (71, _)] a := hA.sub ((.cons rfl (.cons rfl (.cons rfl (.cons rfl (.cons rfl .nil))))))
          refine Ends.region ?_
          refine S.val hA (R.move rfl) rfl ?_; clear hA a; intro a hA
          refine S.val hA (R.move rfl) rfl ?_; clear hA a; intro a hA
          refine S.call hA (R.callF Tryd.func42 rfl rfl rfl) rfl (line05 ra13 ((i.cost.getD r [])) rc14 (by omega) hbr _ (hrow15.mem hM) (tab_below htab (Mem.trans0 hbs hM.nilL))) ?_; clear hA a
          rintro e w10 ⟨rfl, hb⟩
          replace hM := hM.callB hb; clear hb
          refine ⟨.string ((bs (lineB ((i.cost.getD r []))))), rfl, fun a hA => ?_⟩
          refine S.val hA (R.to (v := .string (bs (((((nameB i.kind ++ ([32] : List UInt8)) ++ lineB ([i.n, i.cap] : List Int)) ++ itemsB i i.n.toNat) ++ rowsB i r) ++ lineB ((i.cost.getD r []))))) (R.addS rfl rfl (by show (bs (((((nameB i.kind ++ ([32] : List UInt8)) ++ lineB ([i.n, i.cap] : List Int)) ++ itemsB i i.n.toNat) ++ rowsB i r))).size + (bs (lineB ((i.cost.getD r [])))).size ≤ _; simp only [bs_size, List.length_append, List.length_cons, List.length_nil]; omega)) (congrArg Value.string (bs_app (((((nameB i.kind ++ ([32] : List UInt8)) ++ lineB ([i.n, i.cap] : List Int)) ++ itemsB i i.n.toNat) ++ rowsB i r)) (lineB ((i.cost.getD r [])))))) rfl ?_; clear hA a; intro a hA
          refine S.val hA (R.assign rfl) rfl ?_; clear hA a; intro a hA
          refine S.done ?_
          replace hA : St 81 [(5, _), (69, _), (70, _), (71, _)] a := hA.sub ((.cons rfl (.cons rfl (.cons rfl (.cons rfl .nil)))))
          refine Ends.inBlock ?_
          refine Ends.region ?_
          refine S.val hA (R.addI rfl rfl (r := ((r : Int)) + 1) rfl (by omega)) rfl ?_; clear hA a; intro a hA
          refine S.val hA (R.move rfl) rfl ?_; clear hA a; intro a hA
          refine S.done ?_
          replace hA : St 81 [(5, _), (69, _), (70, _), (71, _)] a := hA.sub ((.cons rfl (.cons rfl (.cons rfl (.cons rfl .nil)))))
          replace hM : Mem _ _ [pt b5 #[.int .i64 i.n, .int .i64 i.cap] 3, pt b1 #[.int .i64 i.kind, .int .i64 i.n, .int .i64 i.cap, .slice ax3 i.wt.length cx3, .slice ax4 i.vl.length cx4, .slice ax5 i.cost.length cx5] 25] _ := hM
          rw [List.append_assoc (((nameB i.kind ++ ([32] : List UInt8)) ++ lineB ([i.n, i.cap] : List Int)) ++ itemsB i i.n.toNat)] at hA
          exact hNext1 ((r + 1)) _ _ ((by show i.cost.length - (r + 1) < i.cost.length - r; omega)) ⟨hA.sub ((.cons rfl (.cons rfl (.cons rfl (.cons rfl .nil))))), hM, (by omega)⟩
        ·
          have hrl := rowsB_len hF r (by omega)
          obtain rfl : r = i.cost.length := by omega
          refine Ends.exit rfl ?_
          replace hA : St 81 [(5, _)] a := hA.sub ((.cons rfl .nil))
          refine Ends.seq ?_
          refine Ends.region ?_
          refine S.val hA (R.move rfl) rfl ?_; clear hA a; intro a hA
          refine S.val hA (R.assign rfl) rfl ?_; clear hA a; intro a hA
          refine S.val hA (R.assign rfl) rfl ?_; clear hA a; intro a hA
          refine S.done ?_
          replace hA : St 81 [(2, _), (3, _)] a := hA.sub ((.cons rfl (.cons rfl .nil)))
          refine Ends.ret2 Tryd.func20 Tryd.results20 hA rfl rfl ?_
          have he : wtxt i = ((((nameB i.kind ++ ([32] : List UInt8)) ++ lineB ([i.n, i.cap] : List Int)) ++ itemsB i i.n.toNat) ++ rowsB i i.cost.length) := by
            unfold wtxt textB headB
            rw [if_pos hz]; (repeat' split) <;> first | (exfalso; omega) | (simp only [hk1, List.append_assoc]; done) | (simp [*, nameB, List.append_assoc]; done)
          exact ⟨by rw [he, hz], Mem.trans0 hbs hM.nilL⟩
    ·
      have hk1 := hc4
      rw [if_neg hk1] at f5 f6 f7
      have hh1 := lineB_len (l := [i.n]) (bd_list1 (by unfold bd64; omega))
      simp only [List.length_cons, List.length_nil] at hh1
      refine Ends.seq ?_
      refine Ends.region ?_
      refine S.val hA (R.eql rfl rfl) rfl ?_; clear hA a; intro a hA
      refine S.val hA (R.assign rfl) rfl ?_; clear hA a; intro a hA
      refine S.done ?_
      replace hA : St 81 [(1, _), (5, _), (19, _), (50, _)] a := hA.sub ((.cons rfl (.cons rfl (.cons rfl (.cons rfl .nil)))))
      refine Ends.ite hA rfl (fun hc17 => ?_) (fun hc17 => ?_)
      ·
        refine Ends.region ?_
        refine S.val hA (R.move rfl) rfl ?_; clear hA a; intro a hA
        refine S.val hA (R.fieldAddr (q := 1) fi25_1 rfl rfl rfl) rfl ?_; clear hA a; intro a hA
        refine S.val hA (R.load sz3 rfl (hM.cell (k := 0) rfl rfl)) rfl ?_; clear hA a; intro a hA
        refine S.buildSl (cells := #[.int .i64 i.n]) hA hM Tryd.underlying22 info3 rfl rfl rfl rfl (by kernel_rfl) rfl ?_; clear hA hM a; intro b18 w11 hb19 hM a hA
        replace hM : Mem _ _ [pt b18 #[.int .i64 i.n] 3, pt b1 #[.int .i64 i.kind, .int .i64 i.n, .int .i64 i.cap, .slice ax3 i.wt.length cx3, .slice ax4 i.vl.length cx4, .slice ax5 i.cost.length cx5] 25] _ := hM
        have hq20 := hM.ptRs (k := 0) (X := ([i.n] : List Int)) rfl (by simp)
        refine S.call hA (R.callF Tryd.func42 rfl rfl rfl) rfl (line05 (some ⟨b18, 0, none⟩) ([i.n] : List Int) 1 (by simp) (bd_list1 (by unfold bd64; omega)) _ hq20 (tab_below htab (Mem.trans0 hbs hM.nilL))) ?_; clear hA a
        rintro e w12 ⟨rfl, hb⟩
        replace hM := hM.callB hb; clear hb
        refine ⟨.string ((bs (lineB ([i.n] : List Int)))), rfl, fun a hA => ?_⟩
        refine S.val hA (R.to (v := .string (bs ((nameB i.kind ++ ([32] : List UInt8)) ++ lineB ([i.n] : List Int)))) (R.addS rfl rfl (by show (bs ((nameB i.kind ++ ([32] : List UInt8)))).size + (bs (lineB ([i.n] : List Int))).size ≤ _; simp only [bs_size, List.length_append, List.length_cons, List.length_nil]; omega)) (congrArg Value.string (bs_app ((nameB i.kind ++ ([32] : List UInt8))) (lineB ([i.n] : List Int))))) rfl ?_; clear hA a; intro a hA
        refine S.val hA (R.assign rfl) rfl ?_; clear hA a; intro a hA
        refine S.done ?_
        replace hA : St 81 [(1, _), (5, _)] a := hA.sub ((.cons rfl (.cons rfl .nil)))
        refine Ends.inBlock ?_
        refine Ends.seq ?_
        refine Ends.seq ?_
        refine Ends.region ?_
        refine S.val hA (R.fieldAddr (q := 5) fi25_5 rfl rfl rfl) rfl ?_; clear hA a; intro a hA
        refine S.val hA (R.load sz23 rfl (hM.cell (k := 1) rfl rfl)) rfl ?_; clear hA a; intro a hA
        refine S.val hA (R.lenS Tryd.underlying23 rfl rfl) rfl ?_; clear hA a; intro a hA
        refine S.val hA (R.move rfl) rfl ?_; clear hA a; intro a hA
        refine S.done ?_
        replace hA : St 81 [(5, _), (69, _), (70, _), (71, _)] a := hA.sub ((.cons rfl (.cons rfl (.cons rfl (.cons rfl .nil)))))
        refine Ends.block ?_
        rw [show bs (((nameB i.kind ++ ([32] : List UInt8)) ++ lineB ([i.n] : List Int))) = bs (((nameB i.kind ++ ([32] : List UInt8)) ++ lineB ([i.n] : List Int)) ++ rowsB i 0) by simp [rowsB]] at hA
        refine Ends.loop (σ := Nat) (fun r (a : Act) (wv : World) => St 81 [(5, .string ((bs ((((nameB i.kind ++ ([32] : List UInt8)) ++ lineB ([i.n] : List Int)) ++ rowsB i r))))), (69, .slice ax5 i.cost.length cx5), (70, .int .i64 ((i.cost.length : Int))), (71, .int .i64 ((r : Int)))] a ∧ Mem w nof [pt b18 #[.int .i64 i.n] 3, pt b1 #[.int .i64 i.kind, .int .i64 i.n, .int .i64 i.cap, .slice ax3 i.wt.length cx3, .slice ax4 i.vl.length cx4, .slice ax5 i.cost.length cx5] 25] wv ∧ (r ≤ i.cost.length)) (fun r => i.cost.length - r) 0 ⟨hA.sub ((.cons rfl (.cons rfl (.cons rfl (.cons rfl .nil))))), hM, (Nat.zero_le _)⟩ ?_
        clear hA hM a
        rintro r a w13 ⟨hA, hM, hr⟩ hNext1
        refine Ends.seq ?_
        refine Ends.region ?_
        refine S.val hA (R.lss rfl rfl) rfl ?_; clear hA a; intro a hA
        refine S.done ?_
        replace hA : St 81 [(5, _), (69, _), (70, _), (71, _), (72, _)] a := hA.sub ((.cons rfl (.cons rfl (.cons rfl (.cons rfl (.cons rfl .nil))))))
        refine Ends.seq ?_
        refine Ends.ite hA rfl (fun hc21 => ?_) (fun hc21 => ?_)
        ·
          have hrl := rowsB_len hF r (by omega)
          have hbr := hF.rowbd r
          have hrr := hF.row r (by omega)
          have hll := lineB_len hbr
          refine Ends.skip ?_
          refine Ends.seq ?_
          refine Ends.block ?_
          refine Ends.seq ?_
          refine Ends.region ?_
          refine S.val hA (R.idxR hx5 (j := r) sl23 rfl rfl (by omega) (rfl)) rfl ?_; clear hA a; intro a hA
          obtain ⟨ra22, rc23, hrow24, hld25⟩ := hx5.atP (i := r) (by omega)
          refine S.val hA (hld25 _ _ _ _ _ _ hM sz22 rfl) rfl ?_; clear hA a; intro a hA
          refine S.val hA (R.assign rfl) rfl ?_; clear hA a; intro a hA
          refine S.done ?_
          replace hA : St 81 [(5, _), (8, _), (69, _), (70, _), (71, _)] a := hA.sub ((.cons rfl (.cons rfl (.cons rfl (.cons rfl (.cons rfl .nil))))))
          refine Ends.region ?_
          refine S.val hA (R.move rfl) rfl ?_; clear hA a; intro a hA
          refine S.val hA (R.move rfl) rfl ?_; clear hA a; intro a hA
          refine S.call hA (R.callF Tryd.func42 rfl rfl rfl) rfl (line05 ra22 ((i.cost.getD r [])) rc23 (by omega) hbr _ (hrow24.mem hM) (tab_below htab (Mem.trans0 hbs hM.nilL))) ?_; clear hA a
          rintro e w14 ⟨rfl, hb⟩
          replace hM := hM.callB hb; clear hb
          refine ⟨.string ((bs (lineB ((i.cost.getD r []))))), rfl, fun a hA => ?_⟩
          refine S.val hA (R.to (v := .string (bs ((((nameB i.kind ++ ([32] : List UInt8)) ++ lineB ([i.n] : List Int)) ++ rowsB i r) ++ lineB ((i.cost.getD r []))))) (R.addS rfl rfl (by show (bs ((((nameB i.kind ++ ([32] : List UInt8)) ++ lineB ([i.n] : List Int)) ++ rowsB i r))).size + (bs (lineB ((i.cost.getD r [])))).size ≤ _; simp only [bs_size, List.length_append, List.length_cons, List.length_nil]; omega)) (congrArg Value.string (bs_app ((((nameB i.kind ++ ([32] : List UInt8)) ++ lineB ([i.n] : List Int)) ++ rowsB i r)) (lineB ((i.cost.getD r [])))))) rfl ?_; clear hA a; intro a hA
          refine S.val hA (R.assign rfl) rfl ?_; clear hA a; intro a hA
          refine S.done ?_
          replace hA : St 81 [(5, _), (69, _), (70, _), (71, _)] a := hA.sub ((.cons rfl (.cons rfl (.cons rfl (.cons rfl .nil)))))
          refine Ends.inBlock ?_
          refine Ends.region ?_
          refine S.val hA (R.addI rfl rfl (r := ((r : Int)) + 1) rfl (by omega)) rfl ?_; clear hA a; intro a hA
          refine S.val hA (R.move rfl) rfl ?_; clear hA a; intro a hA
          refine S.done ?_
          replace hA : St 81 [(5, _), (69, _), (70, _), (71, _)] a := hA.sub ((.cons rfl (.cons rfl (.cons rfl (.cons rfl .nil)))))
          replace hM : Mem _ _ [pt b18 #[.int .i64 i.n] 3, pt b1 #[.int .i64 i.kind, .int .i64 i.n, .int .i64 i.cap, .slice ax3 i.wt.length cx3, .slice ax4 i.vl.length cx4, .slice ax5 i.cost.length cx5] 25] _ := hM
          rw [List.append_assoc ((nameB i.kind ++ ([32] : List UInt8)) ++ lineB ([i.n] : List Int))] at hA
          exact hNext1 ((r + 1)) _ _ ((by show i.cost.length - (r + 1) < i.cost.length - r; omega)) ⟨hA.sub ((.cons rfl (.cons rfl (.cons rfl (.cons rfl .nil))))), hM, (by omega)⟩
        ·
          have hrl := rowsB_len hF r (by omega)
          obtain rfl : r = i.cost.length := by omega
          refine Ends.exit rfl ?_
          replace hA : St 81 [(5, _)] a := hA.sub ((.cons rfl .nil))
          refine Ends.seq ?_
          refine Ends.region ?_
          refine S.val hA (R.move rfl) rfl ?_; clear hA a; intro a hA
          refine S.val hA (R.assign rfl) rfl ?_; clear hA a; intro a hA
          refine S.val hA (R.assign rfl) rfl ?_; clear hA a; intro a hA
          refine S.done ?_
          replace hA : St 81 [(2, _), (3, _)] a := hA.sub ((.cons rfl (.cons rfl .nil)))
          refine Ends.ret2 Tryd.func20 Tryd.results20 hA rfl rfl ?_
          have he : wtxt i = (((nameB i.kind ++ ([32] : List UInt8)) ++ lineB ([i.n] : List Int)) ++ rowsB i i.cost.length) := by
            unfold wtxt textB headB
            rw [if_pos hz]; (repeat' split) <;> first | (exfalso; omega) | (simp only [hk1, List.append_assoc]; done) | (simp [*, nameB, List.append_assoc]; done)
          exact ⟨by rw [he, hz], Mem.trans0 hbs hM.nilL⟩
      ·
        refine Ends.seq ?_
        refine Ends.region ?_
        refine S.val hA (R.eql rfl rfl) rfl ?_; clear hA a; intro a hA
        refine S.val hA (R.assign rfl) rfl ?_; clear hA a; intro a hA
        refine S.done ?_
        replace hA : St 81 [(1, _), (5, _), (58, _)] a := hA.sub ((.cons rfl (.cons rfl (.cons rfl .nil))))
        refine Ends.ite hA rfl (fun hc26 => ?_) (fun hc26 => ?_)
        ·
          refine Ends.region ?_
          refine S.val hA (R.move rfl) rfl ?_; clear hA a; intro a hA
          refine S.val hA (R.fieldAddr (q := 1) fi25_1 rfl rfl rfl) rfl ?_; clear hA a; intro a hA
          refine S.val hA (R.load sz3 rfl (hM.cell (k := 0) rfl rfl)) rfl ?_; clear hA a; intro a hA
          refine S.call hA (R.callF Tryd.func43 rfl rfl rfl) rfl (write_any i.n (by omega) _ (tab_below htab (Mem.trans0 hbs hM.nilL))) ?_; clear hA a
          rintro e w15 ⟨rfl, hb⟩
          replace hM := hM.callB hb; clear hb
          refine ⟨.string ((bs (Lib.itoa i.n))), rfl, fun a hA => ?_⟩
          refine S.val hA (R.to (v := .string (bs (Lib.itoa i.n ++ ([32] : List UInt8)))) (R.addS rfl rfl (by show (bs (Lib.itoa i.n)).size + (bs (([32] : List UInt8))).size ≤ _; simp only [bs_size, List.length_append, List.length_cons, List.length_nil]; omega)) (congrArg Value.string (bs_app (Lib.itoa i.n) (([32] : List UInt8))))) rfl ?_; clear hA a; intro a hA
          refine S.val hA (R.to (v := .string (bs ((Lib.itoa i.n ++ ([32] : List UInt8)) ++ ([70, 85, 76, 76] : List UInt8)))) (R.addS rfl rfl (by show (bs ((Lib.itoa i.n ++ ([32] : List UInt8)))).size + (bs (([70, 85, 76, 76] : List UInt8))).size ≤ _; simp only [bs_size, List.length_append, List.length_cons, List.length_nil]; omega)) (congrArg Value.string (bs_app ((Lib.itoa i.n ++ ([32] : List UInt8))) (([70, 85, 76, 76] : List UInt8))))) rfl ?_; clear hA a; intro a hA
          refine S.val hA (R.to (v := .string (bs (((Lib.itoa i.n ++ ([32] : List UInt8)) ++ ([70, 85, 76, 76] : List UInt8)) ++ ([10] : List UInt8)))) (R.addS rfl rfl (by show (bs (((Lib.itoa i.n ++ ([32] : List UInt8)) ++ ([70, 85, 76, 76] : List UInt8)))).size + (bs (([10] : List UInt8))).size ≤ _; simp only [bs_size, List.length_append, List.length_cons, List.length_nil]; omega)) (congrArg Value.string (bs_app (((Lib.itoa i.n ++ ([32] : List UInt8)) ++ ([70, 85, 76, 76] : List UInt8))) (([10] : List UInt8))))) rfl ?_; clear hA a; intro a hA
          refine S.val hA (R.to (v := .string (bs ((nameB i.kind ++ ([32] : List UInt8)) ++ (((Lib.itoa i.n ++ ([32] : List UInt8)) ++ ([70, 85, 76, 76] : List UInt8)) ++ ([10] : List UInt8))))) (R.addS rfl rfl (by show (bs ((nameB i.kind ++ ([32] : List UInt8)))).size + (bs ((((Lib.itoa i.n ++ ([32] : List UInt8)) ++ ([70, 85, 76, 76] : List UInt8)) ++ ([10] : List UInt8)))).size ≤ _; simp only [bs_size, List.length_append, List.length_cons, List.length_nil]; omega)) (congrArg Value.string (bs_app ((nameB i.kind ++ ([32] : List UInt8))) ((((Lib.itoa i.n ++ ([32] : List UInt8)) ++ ([70, 85, 76, 76] : List UInt8)) ++ ([10] : List UInt8)))))) rfl ?_; clear hA a; intro a hA
          refine S.val hA (R.assign rfl) rfl ?_; clear hA a; intro a hA
          refine S.done ?_
          replace hA : St 81 [(1, _), (5, _)] a := hA.sub ((.cons rfl (.cons rfl .nil)))
          refine Ends.inBlock ?_
          refine Ends.seq ?_
          refine Ends.seq ?_
          refine Ends.region ?_
          refine S.val hA (R.fieldAddr (q := 5) fi25_5 rfl rfl rfl) rfl ?_; clear hA a; intro a hA
          refine S.val hA (R.load sz23 rfl (hM.cell (k := 0) rfl rfl)) rfl ?_; clear hA a; intro a hA
          refine S.val hA (R.lenS Tryd.underlying23 rfl rfl) rfl ?_; clear hA a; intro a hA
          refine S.val hA (R.move rfl) rfl ?_; clear hA a; intro a hA
          refine S.done ?_
          replace hA : St 81 [(5, _), (69, _), (70, _), (71, _)] a := hA.sub ((.cons rfl (.cons rfl (.cons rfl (.cons rfl .nil)))))
          refine Ends.block ?_
          rw [show bs (((nameB i.kind ++ ([32] : List UInt8)) ++ (((Lib.itoa i.n ++ ([32] : List UInt8)) ++ ([70, 85, 76, 76] : List UInt8)) ++ ([10] : List UInt8)))) = bs (((nameB i.kind ++ ([32] : List UInt8)) ++ (((Lib.itoa i.n ++ ([32] : List UInt8)) ++ ([70, 85, 76, 76] : List UInt8)) ++ ([10] : List UInt8))) ++ rowsB i 0) by simp [rowsB]] at hA
          refine Ends.loop (σ := Nat) (fun r (a : Act) (wv : World) => St 81 [(5, .string ((bs ((((nameB i.kind ++ ([32] : List UInt8)) ++ (((Lib.itoa i.n ++ ([32] : List UInt8)) ++ ([70, 85, 76, 76] : List UInt8)) ++ ([10] : List UInt8))) ++ rowsB i r))))), (69, .slice ax5 i.cost.length cx5), (70, .int .i64 ((i.cost.length : Int))), (71, .int .i64 ((r : Int)))] a ∧ Mem w nof [pt b1 #[.int .i64 i.kind, .int .i64 i.n, .int .i64 i.cap, .slice ax3 i.wt.length cx3, .slice ax4 i.vl.length cx4, .slice ax5 i.cost.length cx5] 25] wv ∧ (r ≤ i.cost.length)) (fun r => i.cost.length - r) 0 ⟨hA.sub ((.cons rfl (.cons rfl (.cons rfl (.cons rfl .nil))))), hM, (Nat.zero_le _)⟩ ?_
          clear hA hM a
          rintro r a w16 ⟨hA, hM, hr⟩ hNext1
          refine Ends.seq ?_
          refine Ends.region ?_
          refine S.val hA (R.lss rfl rfl) rfl ?_; clear hA a; intro a hA
          refine S.done ?_
          replace hA : St 81 [(5, _), (69, _), (70, _), (71, _), (72, _)] a := hA.sub ((.cons rfl (.cons rfl (.cons rfl (.cons rfl (.cons rfl .nil))))))
          refine Ends.seq ?_
          refine Ends.ite hA rfl (fun hc27 => ?_) (fun hc27 => ?_)
          ·
            have hrl := rowsB_len hF r (by omega)
            have hbr := hF.rowbd r
            have hrr := hF.row r (by omega)
            have hll := lineB_len hbr
            refine Ends.skip ?_
            refine Ends.seq ?_
            refine Ends.block ?_
            refine Ends.seq ?_
            refine Ends.region ?_
            refine S.val hA (R.idxR hx5 (j := r) sl23 rfl rfl (by omega) (rfl)) rfl ?_; clear hA a; intro a hA
            obtain ⟨ra28, rc29, hrow30, hld31⟩ := hx5.atP (i := r) (by omega)
            refine S.val hA (hld31 _ _ _ _ _ _ hM sz22 rfl) rfl ?_; clear hA a; intro a hA
            refine S.val hA (R.assign rfl) rfl ?_; clear hA a; intro a hA
            refine S.done ?_
            replace hA : St 81 [(5, _), (8, _), (69, _), (70, _), (71, _)] a := hA.sub ((.cons rfl (.cons rfl (.cons rfl (.cons rfl (.cons rfl .nil))))))
            refine Ends.region ?_
            refine S.val hA (R.move rfl) rfl ?_; clear hA a; intro a hA
            refine S.val hA (R.move rfl) rfl ?_; clear hA a; intro a hA
            refine S.call hA (R.callF Tryd.func42 rfl rfl rfl) rfl (line05 ra28 ((i.cost.getD r [])) rc29 (by omega) hbr _ (hrow30.mem hM) (tab_below htab (Mem.trans0 hbs hM.nilL))) ?_; clear hA a
            rintro e w17 ⟨rfl, hb⟩
            replace hM := hM.callB hb; clear hb
            refine ⟨.string ((bs (lineB ((i.cost.getD r []))))), rfl, fun a hA => ?_⟩
            refine S.val hA (R.to (v := .string (bs ((((nameB i.kind ++ ([32] : List UInt8)) ++ (((Lib.itoa i.n ++ ([32] : List UInt8)) ++ ([70, 85, 76, 76] : List UInt8)) ++ ([10] : List UInt8))) ++ rowsB i r) ++ lineB ((i.cost.getD r []))))) (R.addS rfl rfl (by show (bs ((((nameB i.kind ++ ([32] : List UInt8)) ++ (((Lib.itoa i.n ++ ([32] : List UInt8)) ++ ([70, 85, 76, 76] : List UInt8)) ++ ([10] : List UInt8))) ++ rowsB i r))).size + (bs (lineB ((i.cost.getD r [])))).size ≤ _; simp only [bs_size, List.length_append, List.length_cons, List.length_nil]; omega)) (congrArg Value.string (bs_app ((((nameB i.kind ++ ([32] : List UInt8)) ++ (((Lib.itoa i.n ++ ([32] : List UInt8)) ++ ([70, 85, 76, 76] : List UInt8)) ++ ([10] : List UInt8))) ++ rowsB i r)) (lineB ((i.cost.getD r [])))))) rfl ?_; clear hA a; intro a hA
            refine S.val hA (R.assign rfl) rfl ?_; clear hA a; intro a hA
            refine S.done ?_
            replace hA : St 81 [(5, _), (69, _), (70, _), (71, _)] a := hA.sub ((.cons rfl (.cons rfl (.cons rfl (.cons rfl .nil)))))
            refine Ends.inBlock ?_
            refine Ends.region ?_
            refine S.val hA (R.addI rfl rfl (r := ((r : Int)) + 1) rfl (by omega)) rfl ?_; clear hA a; intro a hA
            refine S.val hA (R.move rfl) rfl ?_; clear hA a; intro a hA
            refine S.done ?_
            replace hA : St 81 [(5, _), (69, _), (70, _), (71, _)] a := hA.sub ((.cons rfl (.cons rfl (.cons rfl (.cons rfl .nil)))))
            replace hM : Mem _ _ [pt b1 #[.int .i64 i.kind, .int .i64 i.n, .int .i64 i.cap, .slice ax3 i.wt.length cx3, .slice ax4 i.vl.length cx4, .slice ax5 i.cost.length cx5] 25] _ := hM
            rw [List.append_assoc ((nameB i.kind ++ ([32] : List UInt8)) ++ (((Lib.itoa i.n ++ ([32] : List UInt8)) ++ ([70, 85, 76, 76] : List UInt8)) ++ ([10] : List UInt8)))] at hA
            exact hNext1 ((r + 1)) _ _ ((by show i.cost.length - (r + 1) < i.cost.length - r; omega)) ⟨hA.sub ((.cons rfl (.cons rfl (.cons rfl (.cons rfl .nil))))), hM, (by omega)⟩
          ·
            have hrl := rowsB_len hF r (by omega)
            obtain rfl : r = i.cost.length := by omega
            refine Ends.exit rfl ?_
            replace hA : St 81 [(5, _)] a := hA.sub ((.cons rfl .nil))
            refine Ends.seq ?_
            refine Ends.region ?_
            refine S.val hA (R.move rfl) rfl ?_; clear hA a; intro a hA
            refine S.val hA (R.assign rfl) rfl ?_; clear hA a; intro a hA
            refine S.val hA (R.assign rfl) rfl ?_; clear hA a; intro a hA
            refine S.done ?_
            replace hA : St 81 [(2, _), (3, _)] a := hA.sub ((.cons rfl (.cons rfl .nil)))
            refine Ends.ret2 Tryd.func20 Tryd.results20 hA rfl rfl ?_
            have he : wtxt i = (((nameB i.kind ++ ([32] : List UInt8)) ++ (((Lib.itoa i.n ++ ([32] : List UInt8)) ++ ([70, 85, 76, 76] : List UInt8)) ++ ([10] : List UInt8))) ++ rowsB i i.cost.length) := by
              unfold wtxt textB headB
              rw [if_pos hz]; (repeat' split) <;> first | (exfalso; omega) | (simp only [hk1, List.append_assoc]; done) | (simp [*, nameB, List.append_assoc]; done)
            exact ⟨by rw [he, hz], Mem.trans0 hbs hM.nilL⟩
        ·
          refine Ends.skip ?_
          refine Ends.inBlock ?_
          refine Ends.seq ?_
          refine Ends.seq ?_
          refine Ends.region ?_
          refine S.val hA (R.fieldAddr (q := 5) fi25_5 rfl rfl rfl) rfl ?_; clear hA a; intro a hA
          refine S.val hA (R.load sz23 rfl (hM.cell (k := 0) rfl rfl)) rfl ?_; clear hA a; intro a hA
          refine S.val hA (R.lenS Tryd.underlying23 rfl rfl) rfl ?_; clear hA a; intro a hA
          refine S.val hA (R.move rfl) rfl ?_; clear hA a; intro a hA
          refine S.done ?_
          replace hA : St 81 [(5, _), (69, _), (70, _), (71, _)] a := hA.sub ((.cons rfl (.cons rfl (.cons rfl (.cons rfl .nil)))))
          refine Ends.block ?_
          rw [show bs ((nameB i.kind ++ ([32] : List UInt8))) = bs ((nameB i.kind ++ ([32] : List UInt8)) ++ rowsB i 0) by simp [rowsB]] at hA
          refine Ends.loop (σ := Nat) (fun r (a : Act) (wv : World) => St 81 [(5, .string ((bs (((nameB i.kind ++ ([32] : List UInt8)) ++ rowsB i r))))), (69, .slice ax5 i.cost.length cx5), (70, .int .i64 ((i.cost.length : Int))), (71, .int .i64 ((r : Int)))] a ∧ Mem w nof [pt b1 #[.int .i64 i.kind, .int .i64 i.n, .int .i64 i.cap, .slice ax3 i.wt.length cx3, .slice ax4 i.vl.length cx4, .slice ax5 i.cost.length cx5] 25] wv ∧ (r ≤ i.cost.length)) (fun r => i.cost.length - r) 0 ⟨hA.sub ((.cons rfl (.cons rfl (.cons rfl (.cons rfl .nil))))), hM, (Nat.zero_le _)⟩ ?_
          clear hA hM a
          rintro r a w18 ⟨hA, hM, hr⟩ hNext1
          refine Ends.seq ?_
          refine Ends.region ?_
          refine S.val hA (R.lss rfl rfl) rfl ?_; clear hA a; intro a hA
          refine S.done ?_
          replace hA : St 81 [(5, _), (69, _), (70, _), (71, _), (72, _)] a := hA.sub ((.cons rfl (.cons rfl (.cons rfl (.cons rfl (.cons rfl .nil))))))
          refine Ends.seq ?_
          refine Ends.ite hA rfl (fun hc32 => ?_) (fun hc32 => ?_)
          ·
            have hrl := rowsB_len hF r (by omega)
            have hbr := hF.rowbd r
            have hrr := hF.row r (by omega)
            have hll := lineB_len hbr
            refine Ends.skip ?_
            refine Ends.seq ?_
            refine Ends.block ?_
            refine Ends.seq ?_
            refine Ends.region ?_
            refine S.val hA (R.idxR hx5 (j := r) sl23 rfl rfl (by omega) (rfl)) rfl ?_; clear hA a; intro a hA
            obtain ⟨ra33, rc34, hrow35, hld36⟩ := hx5.atP (i := r) (by omega)
            refine S.val hA (hld36 _ _ _ _ _ _ hM sz22 rfl) rfl ?_; clear hA a; intro a hA
            refine S.val hA (R.assign rfl) rfl ?_; clear hA a; intro a hA
            refine S.done ?_
            replace hA : St 81 [(5, _), (8, _), (69, _), (70, _), (71, _)] a := hA.sub ((.cons rfl (.cons rfl (.cons rfl (.cons rfl (.cons rfl .nil))))))
            refine Ends.region ?_
            refine S.val hA (R.move rfl) rfl ?_; clear hA a; intro a hA
            refine S.val hA (R.move rfl) rfl ?_; clear hA a; intro a hA
            refine S.call hA (R.callF Tryd.func42 rfl rfl rfl) rfl (line05 ra33 ((i.cost.getD r [])) rc34 (by omega) hbr _ (hrow35.mem hM) (tab_below htab (Mem.trans0 hbs hM.nilL))) ?_; clear hA a
            rintro e w19 ⟨rfl, hb⟩
            replace hM := hM.callB hb; clear hb
            refine ⟨.string ((bs (lineB ((i.cost.getD r []))))), rfl, fun a hA => ?_⟩
            refine S.val hA (R.to (v := .string (bs (((nameB i.kind ++ ([32] : List UInt8)) ++ rowsB i r) ++ lineB ((i.cost.getD r []))))) (R.addS rfl rfl (by show (bs (((nameB i.kind ++ ([32] : List UInt8)) ++ rowsB i r))).size + (bs (lineB ((i.cost.getD r [])))).size ≤ _; simp only [bs_size, List.length_append, List.length_cons, List.length_nil]; omega)) (congrArg Value.string (bs_app (((nameB i.kind ++ ([32] : List UInt8)) ++ rowsB i r)) (lineB ((i.cost.getD r [])))))) rfl ?_; clear hA a; intro a hA
            refine S.val hA (R.assign rfl) rfl ?_; clear hA a; intro a hA
            refine S.done ?_
            replace hA : St 81 [(5, _), (69, _), (70, _), (71, _)] a := hA.sub ((.cons rfl (.cons rfl (.cons rfl (.cons rfl .nil)))))
            refine Ends.inBlock ?_
            refine Ends.region ?_
            refine S.val hA (R.addI rfl rfl (r := ((r : Int)) + 1) rfl (by omega)) rfl ?_; clear hA a; intro a hA
            refine S.val hA (R.move rfl) rfl ?_; clear hA a; intro a hA
            refine S.done ?_
            replace hA : St 81 [(5, _), (69, _), (70, _), (71, _)] a := hA.sub ((.cons rfl (.cons rfl (.cons rfl (.cons rfl .nil)))))
            replace hM : Mem _ _ [pt b1 #[.int .i64 i.kind, .int .i64 i.n, .int .i64 i.cap, .slice ax3 i.wt.length cx3, .slice ax4 i.vl.length cx4, .slice ax5 i.cost.length cx5] 25] _ := hM
            rw [List.append_assoc (nameB i.kind ++ ([32] : List UInt8))] at hA
            exact hNext1 ((r + 1)) _ _ ((by show i.cost.length - (r + 1) < i.cost.length - r; omega)) ⟨hA.sub ((.cons rfl (.cons rfl (.cons rfl (.cons rfl .nil))))), hM, (by omega)⟩
          ·
            have hrl := rowsB_len hF r (by omega)
            obtain rfl : r = i.cost.length := by omega
            refine Ends.exit rfl ?_
            replace hA : St 81 [(5, _)] a := hA.sub ((.cons rfl .nil))
            refine Ends.seq ?_
            refine Ends.region ?_
            refine S.val hA (R.move rfl) rfl ?_; clear hA a; intro a hA
            refine S.val hA (R.assign rfl) rfl ?_; clear hA a; intro a hA
            refine S.val hA (R.assign rfl) rfl ?_; clear hA a; intro a hA
            refine S.done ?_
            replace hA : St 81 [(2, _), (3, _)] a := hA.sub ((.cons rfl (.cons rfl .nil)))
            refine Ends.ret2 Tryd.func20 Tryd.results20 hA rfl rfl ?_
            have he : wtxt i = ((nameB i.kind ++ ([32] : List UInt8)) ++ rowsB i i.cost.length) := by
              unfold wtxt textB headB
              rw [if_pos hz]; (repeat' split) <;> first | (exfalso; omega) | (simp only [hk1, List.append_assoc]; done) | (simp [*, nameB, List.append_assoc]; done)
            exact ⟨by rw [he, hz], Mem.trans0 hbs hM.nilL⟩
theorem line1 (a : Int) : lineB [a] = Lib.itoa a ++ [10] := by simp [lineB, Lib.join_one]
theorem line2 (a b : Int) : lineB [a, b] = ((Lib.itoa a ++ [32]) ++ Lib.itoa b) ++ [10] := by simp [lineB, Lib.join, List.intercalate]
def joinP (X : List Int) (c : Nat) : List UInt8 := Lib.join ((X.take c).map Lib.itoa) [32]
theorem joinTail_snoc (sep : List UInt8) (r : List (List UInt8)) (y : List UInt8) : Lib.joinTail sep (r ++ [y]) = Lib.joinTail sep r ++ (sep ++ y) := by simp [Lib.joinTail]
theorem joinP_zero (X : List Int) : joinP X 0 = [] := by simp [joinP, Lib.join_nil]
theorem joinP_first {X : List Int} (h : 0 < X.length) : joinP X 1 = Lib.itoa (X.getD 0 0) := by
  rw [joinP, take_succ_getD X 0 h]; simp [Lib.join_one]
theorem joinP_snoc {X : List Int} {c : Nat} (h : c < X.length) (h0 : 0 < c) : joinP X (c + 1) = (joinP X c ++ [32]) ++ Lib.itoa (X.getD c 0) := by
  unfold joinP
  rw [take_succ_getD X c h, List.map_append]
  have : ∃ y r, (X.take c).map Lib.itoa = y :: r := by
    match hq : (X.take c).map Lib.itoa with
    | [] => have := congrArg List.length hq; simp only [List.length_map, List.length_take, List.length_nil] at this; omega
    | y :: r => exact ⟨y, r, rfl⟩
  obtain ⟨y, r, e⟩ := this
  rw [e, List.cons_append, Lib.join_cons, Lib.join_cons, List.map_cons, List.map_nil, joinTail_snoc]
  simp only [List.append_assoc]
theorem joinP_all (X : List Int) : joinP X X.length ++ [10] = lineB X := by rw [joinP, List.take_length]; rfl
theorem joinP_len {X : List Int} (h : ∀ x ∈ X, bd64 x) (c : Nat) : (joinP X c).length ≤ 22 * X.length := by
  have := join_len (l := X.take c) (fun x hx => h x (List.mem_of_mem_take hx))
  rw [List.length_take] at this
  unfold joinP; omega
set_option maxRecDepth 100000 in
set_option maxHeartbeats 400000 in
theorem rwrite05 (i : Ins) (ax3 : Option Addr) (cx3 : Nat) (ax4 : Option Addr) (cx4 : Nat) (ax5 : Option Addr) (cx5 : Nat) (w : World) (hx3 : IntSl w (.slice ax3 i.wt.length cx3) i.wt) (hx4 : IntSl w (.slice ax4 i.vl.length cx4) i.vl) (hx5 : RowsV w (.slice ax5 i.cost.length cx5) i.cost) :
    Calls Tryd.prog 21 #[.agg #[.int .i64 i.kind, .int .i64 i.n, .int .i64 i.cap, .slice ax3 i.wt.length cx3, .slice ax4 i.vl.length cx4, .slice ax5 i.cost.length cx5]] w fun e w' => e = .returned (.tuple #[.string (bs (wtxt i)), .int .i64 (chk i)]) ∧ Below w.heap.size w w' := by
  have hbs := Below.refl (B := w.heap.size) w
  have hl5 := hx5.lenB
  have hM := Mem.start w
  refine Calls.of_ends (vs := [.agg #[.int .i64 i.kind, .int .i64 i.n, .int .i64 i.cap, .slice ax3 i.wt.length cx3, .slice ax4 i.vl.length cx4, .slice ax5 i.cost.length cx5]]) Tryd.func21 rfl Tryd.ntmps21 rfl ?_
  intro a hA
  replace hA : St 93 [(0, _)] a := hA
  refine Ends.seq ?_
  refine Ends.region ?_
  refine S.box hA hM rfl rfl ?_; clear hA hM a; intro b1 w1 hb2 hM a hA
  replace hM : Mem _ _ [pt b1 #[.int .i64 i.kind, .int .i64 i.n, .int .i64 i.cap, .slice ax3 i.wt.length cx3, .slice ax4 i.vl.length cx4, .slice ax5 i.cost.length cx5] 25] _ := hM
  refine S.val hA (R.assign rfl) rfl ?_; clear hA a; intro a hA
  refine S.val hA (R.assign rfl) rfl ?_; clear hA a; intro a hA
  refine S.done ?_
  replace hA : St 93 [(1, _)] a := hA.sub ((.cons rfl .nil))
  refine Ends.seq ?_
  refine Ends.seq ?_
  refine Ends.region ?_
  refine S.val hA (R.loadA sz25 rfl (hM.range (k := 0) rfl) rfl) rfl ?_; clear hA a; intro a hA
  refine S.call hA (R.callF Tryd.func19 rfl rfl rfl) rfl (rcheck05 i ax3 cx3 ax4 cx4 ax5 cx5 _ (hx3.mem hM) (hx4.mem hM) (hx5.mem hM)) ?_; clear hA a
  rintro e w2 ⟨rfl, hb⟩
  replace hM := hM.callB hb; clear hb
  refine ⟨.int .i64 (chk i), rfl, fun a hA => ?_⟩
  refine S.val hA (R.assign rfl) rfl ?_; clear hA a; intro a hA
  refine S.done ?_
  replace hA : St 93 [(1, _), (4, _)] a := hA.sub ((.cons rfl (.cons rfl .nil)))
  refine Ends.seq ?_
  refine Ends.region ?_
  refine S.val hA (R.move rfl) rfl ?_; clear hA a; intro a hA
  refine S.val hA (R.neq rfl rfl) rfl ?_; clear hA a; intro a hA
  refine S.done ?_
  replace hA : St 93 [(1, _), (4, _), (14, _)] a := hA.sub ((.cons rfl (.cons rfl (.cons rfl .nil))))
  refine Ends.ite hA rfl (fun hc3 => ?_) (fun hc3 => ?_)
  ·
    refine Ends.seq ?_
    refine Ends.region ?_
    refine S.val hA (R.move rfl) rfl ?_; clear hA a; intro a hA
    refine S.val hA (R.assign rfl) rfl ?_; clear hA a; intro a hA
    refine S.val hA (R.assign rfl) rfl ?_; clear hA a; intro a hA
    refine S.done ?_
    replace hA : St 93 [(1, _), (2, _), (3, _)] a := hA.sub ((.cons rfl (.cons rfl (.cons rfl .nil))))
    refine Ends.ret2 Tryd.func21 Tryd.results21 hA rfl rfl ?_
    exact ⟨by unfold wtxt; rw [if_neg hc3]; rfl, Mem.trans0 hbs hM.nilL⟩
  ·
    have hz : chk i = 0 := Decidable.not_not.1 hc3
    have hF := chk_inF hz
    have f1 := hF.kind
    have f2 := hF.n1
    have f3 := hF.n64
    have f4 := hF.cap
    have f5 := hF.wt
    have f6 := hF.vl
    have f7 := hF.cost
    have f8 := hF.n24
    have hnl := nameB_len i.kind
    have hni := itoa_len' (n := i.n) (by unfold bd64; omega)
    have hnc := itoa_len' (n := i.cap) (by unfold bd64; omega)
    refine Ends.skip ?_
    refine Ends.seq ?_
    refine Ends.region ?_
    refine S.val hA (R.fieldAddr (q := 1) fi25_1 rfl rfl rfl) rfl ?_; clear hA a; intro a hA
    refine S.val hA (R.load sz3 rfl (hM.cell (k := 0) rfl rfl)) rfl ?_; clear hA a; intro a hA
    refine S.call hA (R.callF Tryd.func30 rfl rfl rfl) rfl (rwrite_any i.n (by omega) _) ?_; clear hA a
    rintro e w3 ⟨rfl, hb⟩
    replace hM := hM.callB hb; clear hb
    refine ⟨.string ((bs (Lib.itoa i.n))), rfl, fun a hA => ?_⟩
    refine S.val hA (R.assign rfl) rfl ?_; clear hA a; intro a hA
    refine S.done ?_
    replace hA : St 93 [(1, _), (5, _)] a := hA.sub ((.cons rfl (.cons rfl .nil)))
    refine Ends.seq ?_
    refine Ends.seq ?_
    refine Ends.region ?_
    refine S.val hA (R.fieldAddr (q := 0) fi25_0 rfl rfl rfl) rfl ?_; clear hA a; intro a hA
    refine S.val hA (R.load sz3 rfl (hM.cell (k := 0) rfl rfl)) rfl ?_; clear hA a; intro a hA
    refine S.val hA (R.eql rfl rfl) rfl ?_; clear hA a; intro a hA
    refine S.done ?_
    replace hA : St 93 [(1, _), (5, _), (21, _)] a := hA.sub ((.cons rfl (.cons rfl (.cons rfl .nil))))
    refine Ends.ite hA rfl (fun hc4 => ?_) (fun hc4 => ?_)
    ·
      have hk1 := hc4
      rw [if_pos hk1] at f5 f6 f7
      have hhl := lineB_len (l := [i.n, i.cap]) (bd_list2 (by unfold bd64; omega) (by unfold bd64; omega))
      simp only [List.length_cons, List.length_nil] at hhl
      refine Ends.seq ?_
      refine Ends.region ?_
      refine S.val hA (R.move rfl) rfl ?_; clear hA a; intro a hA
      refine S.val hA (R.to (v := .string (bs (([75, 78, 65, 80, 83, 65, 67, 75, 32] : List UInt8) ++ Lib.itoa i.n))) (R.addS rfl rfl (by show (bs (([75, 78, 65, 80, 83, 65, 67, 75, 32] : List UInt8))).size + (bs (Lib.itoa i.n)).size ≤ _; simp only [bs_size, List.length_append, List.length_cons, List.length_nil]; omega)) (congrArg Value.string (bs_app (([75, 78, 65, 80, 83, 65, 67, 75, 32] : List UInt8)) (Lib.itoa i.n)))) rfl ?_; clear hA a; intro a hA
      refine S.val hA (R.to (v := .string (bs ((([75, 78, 65, 80, 83, 65, 67, 75, 32] : List UInt8) ++ Lib.itoa i.n) ++ ([32] : List UInt8)))) (R.addS rfl rfl (by show (bs ((([75, 78, 65, 80, 83, 65, 67, 75, 32] : List UInt8) ++ Lib.itoa i.n))).size + (bs (([32] : List UInt8))).size ≤ _; simp only [bs_size, List.length_append, List.length_cons, List.length_nil]; omega)) (congrArg Value.string (bs_app ((([75, 78, 65, 80, 83, 65, 67, 75, 32] : List UInt8) ++ Lib.itoa i.n)) (([32] : List UInt8))))) rfl ?_; clear hA a; intro a hA
      refine S.val hA (R.fieldAddr (q := 2) fi25_2 rfl rfl rfl) rfl ?_; clear hA a; intro a hA
      refine S.val hA (R.load sz3 rfl (hM.cell (k := 0) rfl rfl)) rfl ?_; clear hA a; intro a hA
      refine S.call hA (R.callF Tryd.func30 rfl rfl rfl) rfl (rwrite_any i.cap (by omega) _) ?_; clear hA a
      rintro e w4 ⟨rfl, hb⟩
      replace hM := hM.callB hb; clear hb
      refine ⟨.string ((bs (Lib.itoa i.cap))), rfl, fun a hA => ?_⟩
      refine S.val hA (R.to (v := .string (bs (((([75, 78, 65, 80, 83, 65, 67, 75, 32] : List UInt8) ++ Lib.itoa i.n) ++ ([32] : List UInt8)) ++ Lib.itoa i.cap))) (R.addS rfl rfl (by show (bs (((([75, 78, 65, 80, 83, 65, 67, 75, 32] : List UInt8) ++ Lib.itoa i.n) ++ ([32] : List UInt8)))).size + (bs (Lib.itoa i.cap)).size ≤ _; simp only [bs_size, List.length_append, List.length_cons, List.length_nil]; omega)) (congrArg Value.string (bs_app (((([75, 78, 65, 80, 83, 65, 67, 75, 32] : List UInt8) ++ Lib.itoa i.n) ++ ([32] : List UInt8))) (Lib.itoa i.cap)))) rfl ?_; clear hA a; intro a hA
      refine S.val hA (R.to (v := .string (bs ((((([75, 78, 65, 80, 83, 65, 67, 75, 32] : List UInt8) ++ Lib.itoa i.n) ++ ([32] : List UInt8)) ++ Lib.itoa i.cap) ++ ([10] : List UInt8)))) (R.addS rfl rfl (by show (bs ((((([75, 78, 65, 80, 83, 65, 67, 75, 32] : List UInt8) ++ Lib.itoa i.n) ++ ([32] : List UInt8)) ++ Lib.itoa i.cap))).size + (bs (([10] : List UInt8))).size ≤ _; simp only [bs_size, List.length_append, List.length_cons, List.length_nil]; omega)) (congrArg Value.string (bs_app ((((([75, 78, 65, 80, 83, 65, 67, 75, 32] : List UInt8) ++ Lib.itoa i.n) ++ ([32] : List UInt8)) ++ Lib.itoa i.cap)) (([10] : List UInt8))))) rfl ?_; clear hA a; intro a hA
      refine S.val hA (R.assign rfl) rfl ?_; clear hA a; intro a hA
      refine S.done ?_
      replace hA : St 93 [(1, _), (5, _), (6, _)] a := hA.sub ((.cons rfl (.cons rfl (.cons rfl .nil))))
      refine Ends.seq ?_
      refine Ends.seq ?_
      refine Ends.region ?_
      refine S.val hA (R.assign rfl) rfl ?_; clear hA a; intro a hA
      refine S.done ?_
      replace hA : St 93 [(1, _), (5, _), (6, _), (7, _)] a := hA.sub ((.cons rfl (.cons rfl (.cons rfl (.cons rfl .nil)))))
      refine Ends.block ?_
      rw [show bs (((((([75, 78, 65, 80, 83, 65, 67, 75, 32] : List UInt8) ++ Lib.itoa i.n) ++ ([32] : List UInt8)) ++ Lib.itoa i.cap) ++ ([10] : List UInt8))) = bs (((((([75, 78, 65, 80, 83, 65, 67, 75, 32] : List UInt8) ++ Lib.itoa i.n) ++ ([32] : List UInt8)) ++ Lib.itoa i.cap) ++ ([10] : List UInt8)) ++ itemsB i 0) by simp [itemsB]] at hA
      refine Ends.loop (σ := Nat) (fun k (a : Act) (wv : World) => St 93 [(1, .pointer (some ⟨b1, 0, none⟩)), (5, .string ((bs (Lib.itoa i.n)))), (6, .string ((bs ((((((([75, 78, 65, 80, 83, 65, 67, 75, 32] : List UInt8) ++ Lib.itoa i.n) ++ ([32] : List UInt8)) ++ Lib.itoa i.cap) ++ ([10] : List UInt8)) ++ itemsB i k))))), (7, .int .i64 ((k : Int)))] a ∧ Mem w nof [pt b1 #[.int .i64 i.kind, .int .i64 i.n, .int .i64 i.cap, .slice ax3 i.wt.length cx3, .slice ax4 i.vl.length cx4, .slice ax5 i.cost.length cx5] 25] wv ∧ (k ≤ i.n.toNat)) (fun k => i.n.toNat - k) 0 ⟨hA.sub ((.cons rfl (.cons rfl (.cons rfl (.cons rfl .nil))))), hM, (Nat.zero_le _)⟩ ?_
      clear hA hM a
      rintro k a w5 ⟨hA, hM, hk⟩ hNext
      refine Ends.seq ?_
      refine Ends.seq ?_
      refine Ends.region ?_
      refine S.val hA (R.move rfl) rfl ?_; clear hA a; intro a hA
      refine S.val hA (R.fieldAddr (q := 1) fi25_1 rfl rfl rfl) rfl ?_; clear hA a; intro a hA
      refine S.val hA (R.load sz3 rfl (hM.cell (k := 0) rfl rfl)) rfl ?_; clear hA a; intro a hA
      refine S.val hA (R.lss rfl rfl) rfl ?_; clear hA a; intro a hA
      refine S.done ?_
      replace hA : St 93 [(1, _), (5, _), (6, _), (7, _), (33, _)] a := hA.sub ((.cons rfl (.cons rfl (.cons rfl (.cons rfl (.cons rfl .nil))))))
      refine Ends.ite hA rfl (fun hc5 => ?_) (fun hc5 => ?_)
      ·
        have g1 := hF.wtr k
        have g2 := hF.vlr k
        have hil := itemsB_len hF k
        have i1 := itoa_len' (n := i.wt.getD k 0) (by unfold bd64; omega)
        have i2 := itoa_len' (n := i.vl.getD k 0) (by unfold bd64; omega)
        refine Ends.skip ?_
        refine Ends.seq ?_
        refine Ends.block ?_
        refine Ends.drawn (Mem w nof [pt b1 #[.int .i64 i.kind, .int .i64 i.n, .int .i64 i.cap, .slice ax3 i.wt.length cx3, .slice ax4 i.vl.length cx4, .slice ax5 i.cost.length cx5] 25]) (.cons (0, true) (.cons (1, true) (.cons (2, true) (.cons (3, true) (.cons (4, true) (.cons (5, true) (.cons (9, true) (.cons (10, true) (.cons (11, true) (.cons (12, true) (.cons (13, true) (.cons (6, false) (.cons (7, true) (.cons (8, true) (.cons (14, false) (.cons (15, true) (.cons (16, true) (.cons (17, true) .nil)))))))))))))))))) 18 mixed (by kernel_rfl) (by kernel_rfl) (by kernel_rfl) hM.drew ?_
        replace hM := hM.drew
        refine D.valF hA rfl (fun _ => R.move rfl) rfl ?_; clear hA a; intro a hA
        refine D.valF hA rfl (fun _ => R.fieldAddr (q := 3) fi25_3 rfl rfl rfl) rfl ?_; clear hA a; intro a hA
        refine D.val hA rfl (by kernel_rfl) (fun _ hM => R.load sz22 rfl (hM.cell (k := 0) rfl rfl)) rfl ?_; clear hA a; intro a hA
        refine D.valF hA rfl (fun _ => R.move rfl) rfl ?_; clear hA a; intro a hA
        refine D.valF hA rfl (fun _ => R.idxI hx3 (j := k) sl22 rfl rfl (by omega) (rfl)) rfl ?_; clear hA a; intro a hA
        refine D.val hA rfl (by kernel_rfl) (fun _ hM => R.loadI (hx3.mem hM) sz3 rfl (by omega)) rfl ?_; clear hA a; intro a hA
        refine D.valF hA rfl (fun _ => R.fieldAddr (q := 4) fi25_4 rfl rfl rfl) rfl ?_; clear hA a; intro a hA
        refine D.val hA rfl (by kernel_rfl) (fun _ hM => R.load sz22 rfl (hM.cell (k := 0) rfl rfl)) rfl ?_; clear hA a; intro a hA
        refine D.valF hA rfl (fun _ => R.move rfl) rfl ?_; clear hA a; intro a hA
        refine D.valF hA rfl (fun _ => R.idxI hx4 (j := k) sl22 rfl rfl (by omega) (rfl)) rfl ?_; clear hA a; intro a hA
        refine D.val hA rfl (by kernel_rfl) (fun _ hM => R.loadI (hx4.mem hM) sz3 rfl (by omega)) rfl ?_; clear hA a; intro a hA
        refine D.call hA rfl (R.callF Tryd.func30 rfl rfl rfl) rfl (rwrite_any (i.wt.getD k 0) (by omega) _) ?_; clear hA a
        rintro e w6 ⟨rfl, hb⟩
        replace hM := hM.callB hb; clear hb
        refine ⟨.string ((bs (Lib.itoa (i.wt.getD k 0)))), rfl, hM, fun a hA => ?_⟩
        refine D.valF hA rfl (fun _ => R.to (v := .string (bs ((((((([75, 78, 65, 80, 83, 65, 67, 75, 32] : List UInt8) ++ Lib.itoa i.n) ++ ([32] : List UInt8)) ++ Lib.itoa i.cap) ++ ([10] : List UInt8)) ++ itemsB i k) ++ Lib.itoa (i.wt.getD k 0)))) (R.addS rfl rfl (by show (bs ((((((([75, 78, 65, 80, 83, 65, 67, 75, 32] : List UInt8) ++ Lib.itoa i.n) ++ ([32] : List UInt8)) ++ Lib.itoa i.cap) ++ ([10] : List UInt8)) ++ itemsB i k))).size + (bs (Lib.itoa (i.wt.getD k 0))).size ≤ _; simp only [bs_size, List.length_append, List.length_cons, List.length_nil]; omega)) (congrArg Value.string (bs_app ((((((([75, 78, 65, 80, 83, 65, 67, 75, 32] : List UInt8) ++ Lib.itoa i.n) ++ ([32] : List UInt8)) ++ Lib.itoa i.cap) ++ ([10] : List UInt8)) ++ itemsB i k)) (Lib.itoa (i.wt.getD k 0))))) rfl ?_; clear hA a; intro a hA
        refine D.valF hA rfl (fun _ => R.to (v := .string (bs (((((((([75, 78, 65, 80, 83, 65, 67, 75, 32] : List UInt8) ++ Lib.itoa i.n) ++ ([32] : List UInt8)) ++ Lib.itoa i.cap) ++ ([10] : List UInt8)) ++ itemsB i k) ++ Lib.itoa (i.wt.getD k 0)) ++ ([32] : List UInt8)))) (R.addS rfl rfl (by show (bs (((((((([75, 78, 65, 80, 83, 65, 67, 75, 32] : List UInt8) ++ Lib.itoa i.n) ++ ([32] : List UInt8)) ++ Lib.itoa i.cap) ++ ([10] : List UInt8)) ++ itemsB i k) ++ Lib.itoa (i.wt.getD k 0)))).size + (bs (([32] : List UInt8))).size ≤ _; simp only [bs_size, List.length_append, List.length_cons, List.length_nil]; omega)) (congrArg Value.string (bs_app (((((((([75, 78, 65, 80, 83, 65, 67, 75, 32] : List UInt8) ++ Lib.itoa i.n) ++ ([32] : List UInt8)) ++ Lib.itoa i.cap) ++ ([10] : List UInt8)) ++ itemsB i k) ++ Lib.itoa (i.wt.getD k 0))) (([32] : List UInt8))))) rfl ?_; clear hA a; intro a hA
        refine D.call hA rfl (R.callF Tryd.func30 rfl rfl rfl) rfl (rwrite_any (i.vl.getD k 0) (by omega) _) ?_; clear hA a
        rintro e w7 ⟨rfl, hb⟩
        replace hM := hM.callB hb; clear hb
        refine ⟨.string ((bs (Lib.itoa (i.vl.getD k 0)))), rfl, hM, fun a hA => ?_⟩
        refine D.valF hA rfl (fun _ => R.to (v := .string (bs ((((((((([75, 78, 65, 80, 83, 65, 67, 75, 32] : List UInt8) ++ Lib.itoa i.n) ++ ([32] : List UInt8)) ++ Lib.itoa i.cap) ++ ([10] : List UInt8)) ++ itemsB i k) ++ Lib.itoa (i.wt.getD k 0)) ++ ([32] : List UInt8)) ++ Lib.itoa (i.vl.getD k 0)))) (R.addS rfl rfl (by show (bs ((((((((([75, 78, 65, 80, 83, 65, 67, 75, 32] : List UInt8) ++ Lib.itoa i.n) ++ ([32] : List UInt8)) ++ Lib.itoa i.cap) ++ ([10] : List UInt8)) ++ itemsB i k) ++ Lib.itoa (i.wt.getD k 0)) ++ ([32] : List UInt8)))).size + (bs (Lib.itoa (i.vl.getD k 0))).size ≤ _; simp only [bs_size, List.length_append, List.length_cons, List.length_nil]; omega)) (congrArg Value.string (bs_app ((((((((([75, 78, 65, 80, 83, 65, 67, 75, 32] : List UInt8) ++ Lib.itoa i.n) ++ ([32] : List UInt8)) ++ Lib.itoa i.cap) ++ ([10] : List UInt8)) ++ itemsB i k) ++ Lib.itoa (i.wt.getD k 0)) ++ ([32] : List UInt8))) (Lib.itoa (i.vl.getD k 0))))) rfl ?_; clear hA a; intro a hA
        refine D.valF hA rfl (fun _ => R.to (v := .string (bs (((((((((([75, 78, 65, 80, 83, 65, 67, 75, 32] : List UInt8) ++ Lib.itoa i.n) ++ ([32] : List UInt8)) ++ Lib.itoa i.cap) ++ ([10] : List UInt8)) ++ itemsB i k) ++ Lib.itoa (i.wt.getD k 0)) ++ ([32] : List UInt8)) ++ Lib.itoa (i.vl.getD k 0)) ++ ([10] : List UInt8)))) (R.addS rfl rfl (by show (bs (((((((((([75, 78, 65, 80, 83, 65, 67, 75, 32] : List UInt8) ++ Lib.itoa i.n) ++ ([32] : List UInt8)) ++ Lib.itoa i.cap) ++ ([10] : List UInt8)) ++ itemsB i k) ++ Lib.itoa (i.wt.getD k 0)) ++ ([32] : List UInt8)) ++ Lib.itoa (i.vl.getD k 0)))).size + (bs (([10] : List UInt8))).size ≤ _; simp only [bs_size, List.length_append, List.length_cons, List.length_nil]; omega)) (congrArg Value.string (bs_app (((((((((([75, 78, 65, 80, 83, 65, 67, 75, 32] : List UInt8) ++ Lib.itoa i.n) ++ ([32] : List UInt8)) ++ Lib.itoa i.cap) ++ ([10] : List UInt8)) ++ itemsB i k) ++ Lib.itoa (i.wt.getD k 0)) ++ ([32] : List UInt8)) ++ Lib.itoa (i.vl.getD k 0))) (([10] : List UInt8))))) rfl ?_; clear hA a; intro a hA
        refine D.valF hA rfl (fun _ => R.assign rfl) rfl ?_; clear hA a; intro a hA
        refine D.done ?_
        replace hA : St 93 [(1, _), (5, _), (6, _), (7, _)] a := hA.sub ((.cons rfl (.cons rfl (.cons rfl (.cons rfl .nil)))))
        refine Ends.inBlock ?_
        refine Ends.region ?_
        refine S.val hA (R.move rfl) rfl ?_; clear hA a; intro a hA
        refine S.val hA (R.addI rfl rfl (r := ((k : Int)) + 1) rfl (by omega)) rfl ?_; clear hA a; intro a hA
        refine S.val hA (R.assign rfl) rfl ?_; clear hA a; intro a hA
        refine S.done ?_
        replace hA : St 93 [(1, _), (5, _), (6, _), (7, _)] a := hA.sub ((.cons rfl (.cons rfl (.cons rfl (.cons rfl .nil)))))
        replace hM : Mem _ _ [pt b1 #[.int .i64 i.kind, .int .i64 i.n, .int .i64 i.cap, .slice ax3 i.wt.length cx3, .slice ax4 i.vl.length cx4, .slice ax5 i.cost.length cx5] 25] _ := hM
        rw [show (((((((((([75, 78, 65, 80, 83, 65, 67, 75, 32] : List UInt8) ++ Lib.itoa i.n) ++ ([32] : List UInt8)) ++ Lib.itoa i.cap) ++ ([10] : List UInt8)) ++ itemsB i k) ++ Lib.itoa (i.wt.getD k 0)) ++ ([32] : List UInt8)) ++ Lib.itoa (i.vl.getD k 0)) ++ ([10] : List UInt8)) = ((((([75, 78, 65, 80, 83, 65, 67, 75, 32] : List UInt8) ++ Lib.itoa i.n) ++ ([32] : List UInt8)) ++ Lib.itoa i.cap) ++ ([10] : List UInt8)) ++ itemsB i (k + 1) by rw [itemsB, line2]; simp only [List.append_assoc]] at hA
        exact hNext ((k + 1)) _ _ ((by show i.n.toNat - (k + 1) < i.n.toNat - k; omega)) ⟨hA.sub ((.cons rfl (.cons rfl (.cons rfl (.cons rfl .nil))))), hM, (by omega)⟩
      ·
        obtain rfl : k = i.n.toNat := by omega
        refine Ends.exit rfl ?_
        replace hA : St 93 [(1, _), (5, _), (6, _)] a := hA.sub ((.cons rfl (.cons rfl (.cons rfl .nil))))
        refine Ends.seq ?_
        refine Ends.region ?_
        refine S.val hA (R.move rfl) rfl ?_; clear hA a; intro a hA
        refine S.val hA (R.assign rfl) rfl ?_; clear hA a; intro a hA
        refine S.val hA (R.assign rfl) rfl ?_; clear hA a; intro a hA
        refine S.done ?_
        replace hA : St 93 [(1, _), (2, _), (3, _), (5, _)] a := hA.sub ((.cons rfl (.cons rfl (.cons rfl (.cons rfl .nil)))))
        refine Ends.ret2 Tryd.func21 Tryd.results21 hA rfl rfl ?_
        have he : wtxt i = (((((([75, 78, 65, 80, 83, 65, 67, 75, 32] : List UInt8) ++ Lib.itoa i.n) ++ ([32] : List UInt8)) ++ Lib.itoa i.cap) ++ ([10] : List UInt8)) ++ itemsB i i.n.toNat) := by
          have hc0 : i.cost.length = 0 := by omega
          unfold wtxt textB headB
          rw [if_pos hz, if_pos hk1, if_pos hk1, hc0, line2]
          simp [nameB, rowsB, List.append_assoc]
        exact ⟨by rw [he, hz], Mem.trans0 hbs hM.nilL⟩
    ·
      have hk1 := hc4
      rw [if_neg hk1] at f5 f6 f7
      have hh1 := lineB_len (l := [i.n]) (bd_list1 (by unfold bd64; omega))
      simp only [List.length_cons, List.length_nil] at hh1
      refine Ends.skip ?_
      refine Ends.seq ?_
      refine Ends.region ?_
      refine S.val hA (R.move rfl) rfl ?_; clear hA a; intro a hA
      refine S.val hA (R.to (v := .string (bs (([65, 83, 83, 73, 71, 78, 77, 69, 78, 84, 32] : List UInt8) ++ Lib.itoa i.n))) (R.addS rfl rfl (by show (bs (([65, 83, 83, 73, 71, 78, 77, 69, 78, 84, 32] : List UInt8))).size + (bs (Lib.itoa i.n)).size ≤ _; simp only [bs_size, List.length_append, List.length_cons, List.length_nil]; omega)) (congrArg Value.string (bs_app (([65, 83, 83, 73, 71, 78, 77, 69, 78, 84, 32] : List UInt8)) (Lib.itoa i.n)))) rfl ?_; clear hA a; intro a hA
      refine S.val hA (R.to (v := .string (bs ((([65, 83, 83, 73, 71, 78, 77, 69, 78, 84, 32] : List UInt8) ++ Lib.itoa i.n) ++ ([10] : List UInt8)))) (R.addS rfl rfl (by show (bs ((([65, 83, 83, 73, 71, 78, 77, 69, 78, 84, 32] : List UInt8) ++ Lib.itoa i.n))).size + (bs (([10] : List UInt8))).size ≤ _; simp only [bs_size, List.length_append, List.length_cons, List.length_nil]; omega)) (congrArg Value.string (bs_app ((([65, 83, 83, 73, 71, 78, 77, 69, 78, 84, 32] : List UInt8) ++ Lib.itoa i.n)) (([10] : List UInt8))))) rfl ?_; clear hA a; intro a hA
      refine S.val hA (R.assign rfl) rfl ?_; clear hA a; intro a hA
      refine S.done ?_
      replace hA : St 93 [(1, _), (5, _), (8, _)] a := hA.sub ((.cons rfl (.cons rfl (.cons rfl .nil))))
      refine Ends.seq ?_
      refine Ends.seq ?_
      refine Ends.region ?_
      refine S.val hA (R.fieldAddr (q := 0) fi25_0 rfl rfl rfl) rfl ?_; clear hA a; intro a hA
      refine S.val hA (R.load sz3 rfl (hM.cell (k := 0) rfl rfl)) rfl ?_; clear hA a; intro a hA
      refine S.val hA (R.eql rfl rfl) rfl ?_; clear hA a; intro a hA
      refine S.done ?_
      replace hA : St 93 [(1, _), (5, _), (8, _), (59, _)] a := hA.sub ((.cons rfl (.cons rfl (.cons rfl (.cons rfl .nil)))))
      refine Ends.ite hA rfl (fun hc6 => ?_) (fun hc6 => ?_)
      ·
        have hk3 := hc6
        refine Ends.region ?_
        refine S.val hA (R.move rfl) rfl ?_; clear hA a; intro a hA
        refine S.val hA (R.to (v := .string (bs (([84, 83, 80, 32] : List UInt8) ++ Lib.itoa i.n))) (R.addS rfl rfl (by show (bs (([84, 83, 80, 32] : List UInt8))).size + (bs (Lib.itoa i.n)).size ≤ _; simp only [bs_size, List.length_append, List.length_cons, List.length_nil]; omega)) (congrArg Value.string (bs_app (([84, 83, 80, 32] : List UInt8)) (Lib.itoa i.n)))) rfl ?_; clear hA a; intro a hA
        refine S.val hA (R.to (v := .string (bs ((([84, 83, 80, 32] : List UInt8) ++ Lib.itoa i.n) ++ ([32, 70, 85, 76, 76, 10] : List UInt8)))) (R.addS rfl rfl (by show (bs ((([84, 83, 80, 32] : List UInt8) ++ Lib.itoa i.n))).size + (bs (([32, 70, 85, 76, 76, 10] : List UInt8))).size ≤ _; simp only [bs_size, List.length_append, List.length_cons, List.length_nil]; omega)) (congrArg Value.string (bs_app ((([84, 83, 80, 32] : List UInt8) ++ Lib.itoa i.n)) (([32, 70, 85, 76, 76, 10] : List UInt8))))) rfl ?_; clear hA a; intro a hA
        refine S.val hA (R.assign rfl) rfl ?_; clear hA a; intro a hA
        refine S.done ?_
        replace hA : St 93 [(1, _), (8, _)] a := hA.sub ((.cons rfl (.cons rfl .nil)))
        refine Ends.seq ?_
        refine Ends.seq ?_
        refine Ends.region ?_
        refine S.val hA (R.assign rfl) rfl ?_; clear hA a; intro a hA
        refine S.done ?_
        replace hA : St 93 [(1, _), (8, _), (9, _)] a := hA.sub ((.cons rfl (.cons rfl (.cons rfl .nil))))
        refine Ends.block ?_
        rw [show bs (((([84, 83, 80, 32] : List UInt8) ++ Lib.itoa i.n) ++ ([32, 70, 85, 76, 76, 10] : List UInt8))) = bs (((([84, 83, 80, 32] : List UInt8) ++ Lib.itoa i.n) ++ ([32, 70, 85, 76, 76, 10] : List UInt8)) ++ rowsB i 0) by simp [rowsB]] at hA
        refine Ends.loop (σ := Nat) (fun r (a : Act) (wv : World) => St 93 [(1, .pointer (some ⟨b1, 0, none⟩)), (8, .string ((bs ((((([84, 83, 80, 32] : List UInt8) ++ Lib.itoa i.n) ++ ([32, 70, 85, 76, 76, 10] : List UInt8)) ++ rowsB i r))))), (9, .int .i64 ((r : Int)))] a ∧ Mem w nof [pt b1 #[.int .i64 i.kind, .int .i64 i.n, .int .i64 i.cap, .slice ax3 i.wt.length cx3, .slice ax4 i.vl.length cx4, .slice ax5 i.cost.length cx5] 25] wv ∧ (r ≤ i.n.toNat)) (fun r => i.n.toNat - r) 0 ⟨hA.sub ((.cons rfl (.cons rfl (.cons rfl .nil)))), hM, (Nat.zero_le _)⟩ ?_
        clear hA hM a
        rintro r a w8 ⟨hA, hM, hr⟩ hNext1
        refine Ends.seq ?_
        refine Ends.seq ?_
        refine Ends.region ?_
        refine S.val hA (R.move rfl) rfl ?_; clear hA a; intro a hA
        refine S.val hA (R.fieldAddr (q := 1) fi25_1 rfl rfl rfl) rfl ?_; clear hA a; intro a hA
        refine S.val hA (R.load sz3 rfl (hM.cell (k := 0) rfl rfl)) rfl ?_; clear hA a; intro a hA
        refine S.val hA (R.lss rfl rfl) rfl ?_; clear hA a; intro a hA
        refine S.done ?_
        replace hA : St 93 [(1, _), (8, _), (9, _), (66, _)] a := hA.sub ((.cons rfl (.cons rfl (.cons rfl (.cons rfl .nil)))))
        refine Ends.ite hA rfl (fun hc7 => ?_) (fun hc7 => ?_)
        ·
          have hrl := rowsB_len hF r (by omega)
          have hbr := hF.rowbd r
          have hrr := hF.row r (by omega)
          refine Ends.skip ?_
          refine Ends.seq ?_
          refine Ends.block ?_
          refine Ends.seq ?_
          refine Ends.seq ?_
          refine Ends.region ?_
          refine S.val hA (R.assign rfl) rfl ?_; clear hA a; intro a hA
          refine S.done ?_
          replace hA : St 93 [(1, _), (8, _), (9, _), (10, _)] a := hA.sub ((.cons rfl (.cons rfl (.cons rfl (.cons rfl .nil)))))
          refine Ends.block ?_
          rw [show bs (((([84, 83, 80, 32] : List UInt8) ++ Lib.itoa i.n) ++ ([32, 70, 85, 76, 76, 10] : List UInt8)) ++ rowsB i r) = bs ((((([84, 83, 80, 32] : List UInt8) ++ Lib.itoa i.n) ++ ([32, 70, 85, 76, 76, 10] : List UInt8)) ++ rowsB i r) ++ joinP (i.cost.getD r []) 0) by rw [joinP_zero, List.append_nil]] at hA
          refine Ends.loop (σ := Nat) (fun c_ (a : Act) (wv : World) => St 93 [(1, .pointer (some ⟨b1, 0, none⟩)), (8, .string ((bs (((((([84, 83, 80, 32] : List UInt8) ++ Lib.itoa i.n) ++ ([32, 70, 85, 76, 76, 10] : List UInt8)) ++ rowsB i r) ++ joinP (i.cost.getD r []) c_))))), (9, .int .i64 ((r : Int))), (10, .int .i64 ((c_ : Int)))] a ∧ Mem w nof [pt b1 #[.int .i64 i.kind, .int .i64 i.n, .int .i64 i.cap, .slice ax3 i.wt.length cx3, .slice ax4 i.vl.length cx4, .slice ax5 i.cost.length cx5] 25] wv ∧ (c_ ≤ i.n.toNat)) (fun c_ => i.n.toNat - c_) 0 ⟨hA.sub ((.cons rfl (.cons rfl (.cons rfl (.cons rfl .nil))))), hM, (Nat.zero_le _)⟩ ?_
          clear hA hM a
          rintro c_ a w9 ⟨hA, hM, hcn⟩ hNext2
          refine Ends.seq ?_
          refine Ends.seq ?_
          refine Ends.region ?_
          refine S.val hA (R.move rfl) rfl ?_; clear hA a; intro a hA
          refine S.val hA (R.fieldAddr (q := 1) fi25_1 rfl rfl rfl) rfl ?_; clear hA a; intro a hA
          refine S.val hA (R.load sz3 rfl (hM.cell (k := 0) rfl rfl)) rfl ?_; clear hA a; intro a hA
          refine S.val hA (R.lss rfl rfl) rfl ?_; clear hA a; intro a hA
          refine S.done ?_
          replace hA : St 93 [(1, _), (8, _), (9, _), (10, _), (72, _)] a := hA.sub ((.cons rfl (.cons rfl (.cons rfl (.cons rfl (.cons rfl .nil))))))
          refine Ends.ite hA rfl (fun hc8 => ?_) (fun hc8 => ?_)
          ·
            have hjl := joinP_len hbr c_
            have g1 := hF.cell r c_
            have i1 := itoa_len' (n := (i.cost.getD r []).getD c_ 0) (by unfold bd64; omega)
            refine Ends.skip ?_
            refine Ends.seq ?_
            refine Ends.block ?_
            refine Ends.seq ?_
            refine Ends.seq ?_
            refine Ends.region ?_
            refine S.val hA (R.move rfl) rfl ?_; clear hA a; intro a hA
            refine S.val hA (R.gtr rfl rfl) rfl ?_; clear hA a; intro a hA
            refine S.done ?_
            replace hA : St 93 [(1, _), (8, _), (9, _), (10, _), (76, _)] a := hA.sub ((.cons rfl (.cons rfl (.cons rfl (.cons rfl (.cons rfl .nil))))))
            refine Ends.ite hA rfl (fun hc9 => ?_) (fun hc9 => ?_)
            ·
              refine Ends.region ?_
              refine S.val hA (R.move rfl) rfl ?_; clear hA a; intro a hA
              refine S.val hA (R.to (v := .string (bs (((((([84, 83, 80, 32] : List UInt8) ++ Lib.itoa i.n) ++ ([32, 70, 85, 76, 76, 10] : List UInt8)) ++ rowsB i r) ++ joinP (i.cost.getD r []) c_) ++ ([32] : List UInt8)))) (R.addS rfl rfl (by show (bs (((((([84, 83, 80, 32] : List UInt8) ++ Lib.itoa i.n) ++ ([32, 70, 85, 76, 76, 10] : List UInt8)) ++ rowsB i r) ++ joinP (i.cost.getD r []) c_))).size + (bs (([32] : List UInt8))).size ≤ _; simp only [bs_size, List.length_append, List.length_cons, List.length_nil]; omega)) (congrArg Value.string (bs_app (((((([84, 83, 80, 32] : List UInt8) ++ Lib.itoa i.n) ++ ([32, 70, 85, 76, 76, 10] : List UInt8)) ++ rowsB i r) ++ joinP (i.cost.getD r []) c_)) (([32] : List UInt8))))) rfl ?_; clear hA a; intro a hA
              refine S.val hA (R.assign rfl) rfl ?_; clear hA a; intro a hA
              refine S.done ?_
              replace hA : St 93 [(1, _), (8, _), (9, _), (10, _)] a := hA.sub ((.cons rfl (.cons rfl (.cons rfl (.cons rfl .nil)))))
              refine Ends.region ?_
              refine S.val hA (R.move rfl) rfl ?_; clear hA a; intro a hA
              refine S.val hA (R.fieldAddr (q := 5) fi25_5 rfl rfl rfl) rfl ?_; clear hA a; intro a hA
              refine S.val hA (R.load sz23 rfl (hM.cell (k := 0) rfl rfl)) rfl ?_; clear hA a; intro a hA
              refine S.val hA (R.move rfl) rfl ?_; clear hA a; intro a hA
              refine S.val hA (R.idxR hx5 (j := r) sl23 rfl rfl (by omega) (rfl)) rfl ?_; clear hA a; intro a hA
              obtain ⟨ra10, rc11, hrow12, hld13⟩ := hx5.atP (i := r) (by omega)
              refine S.val hA (hld13 _ _ _ _ _ _ hM sz22 rfl) rfl ?_; clear hA a; intro a hA
              refine S.val hA (R.move rfl) rfl ?_; clear hA a; intro a hA
              refine S.val hA (R.idxI hrow12 (j := c_) sl22 rfl rfl (by omega) (rfl)) rfl ?_; clear hA a; intro a hA
              refine S.val hA (R.loadI (hrow12.mem hM) sz3 rfl (by omega)) rfl ?_; clear hA a; intro a hA
              refine S.call hA (R.callF Tryd.func30 rfl rfl rfl) rfl (rwrite_any (((i.cost.getD r [])).getD c_ 0) (by omega) _) ?_; clear hA a
              rintro e w10 ⟨rfl, hb⟩
              replace hM := hM.callB hb; clear hb
              refine ⟨.string ((bs (Lib.itoa (((i.cost.getD r [])).getD c_ 0)))), rfl, fun a hA => ?_⟩
              refine S.val hA (R.to (v := .string (bs ((((((([84, 83, 80, 32] : List UInt8) ++ Lib.itoa i.n) ++ ([32, 70, 85, 76, 76, 10] : List UInt8)) ++ rowsB i r) ++ joinP (i.cost.getD r []) c_) ++ ([32] : List UInt8)) ++ Lib.itoa (((i.cost.getD r [])).getD c_ 0)))) (R.addS rfl rfl (by show (bs ((((((([84, 83, 80, 32] : List UInt8) ++ Lib.itoa i.n) ++ ([32, 70, 85, 76, 76, 10] : List UInt8)) ++ rowsB i r) ++ joinP (i.cost.getD r []) c_) ++ ([32] : List UInt8)))).size + (bs (Lib.itoa (((i.cost.getD r [])).getD c_ 0))).size ≤ _; simp only [bs_size, List.length_append, List.length_cons, List.length_nil]; omega)) (congrArg Value.string (bs_app ((((((([84, 83, 80, 32] : List UInt8) ++ Lib.itoa i.n) ++ ([32, 70, 85, 76, 76, 10] : List UInt8)) ++ rowsB i r) ++ joinP (i.cost.getD r []) c_) ++ ([32] : List UInt8))) (Lib.itoa (((i.cost.getD r [])).getD c_ 0))))) rfl ?_; clear hA a; intro a hA
              refine S.val hA (R.assign rfl) rfl ?_; clear hA a; intro a hA
              refine S.done ?_
              replace hA : St 93 [(1, _), (8, _), (9, _), (10, _)] a := hA.sub ((.cons rfl (.cons rfl (.cons rfl (.cons rfl .nil)))))
              refine Ends.inBlock ?_
              refine Ends.region ?_
              refine S.val hA (R.move rfl) rfl ?_; clear hA a; intro a hA
              refine S.val hA (R.addI rfl rfl (r := ((c_ : Int)) + 1) rfl (by omega)) rfl ?_; clear hA a; intro a hA
              refine S.val hA (R.assign rfl) rfl ?_; clear hA a; intro a hA
              refine S.done ?_
              replace hA : St 93 [(1, _), (8, _), (9, _), (10, _)] a := hA.sub ((.cons rfl (.cons rfl (.cons rfl (.cons rfl .nil)))))
              rw [show ((((((([84, 83, 80, 32] : List UInt8) ++ Lib.itoa i.n) ++ ([32, 70, 85, 76, 76, 10] : List UInt8)) ++ rowsB i r) ++ joinP (i.cost.getD r []) c_) ++ ([32] : List UInt8)) ++ Lib.itoa (((i.cost.getD r [])).getD c_ 0)) = ((((([84, 83, 80, 32] : List UInt8) ++ Lib.itoa i.n) ++ ([32, 70, 85, 76, 76, 10] : List UInt8)) ++ rowsB i r) ++ joinP (i.cost.getD r []) (c_ + 1)) by rw [joinP_snoc (by omega) (by omega)]; simp only [List.append_assoc]] at hA
              exact hNext2 ((c_ + 1)) _ _ ((by show i.n.toNat - (c_ + 1) < i.n.toNat - c_; omega)) ⟨hA.sub ((.cons rfl (.cons rfl (.cons rfl (.cons rfl .nil))))), hM, (by omega)⟩
            ·
              refine Ends.skip ?_
              refine Ends.region ?_
              refine S.val hA (R.move rfl) rfl ?_; clear hA a; intro a hA
              refine S.val hA (R.fieldAddr (q := 5) fi25_5 rfl rfl rfl) rfl ?_; clear hA a; intro a hA
              refine S.val hA (R.load sz23 rfl (hM.cell (k := 0) rfl rfl)) rfl ?_; clear hA a; intro a hA
              refine S.val hA (R.move rfl) rfl ?_; clear hA a; intro a hA
              refine S.val hA (R.idxR hx5 (j := r) sl23 rfl rfl (by omega) (rfl)) rfl ?_; clear hA a; intro a hA
              obtain ⟨ra14, rc15, hrow16, hld17⟩ := hx5.atP (i := r) (by omega)
              refine S.val hA (hld17 _ _ _ _ _ _ hM sz22 rfl) rfl ?_; clear hA a; intro a hA
              refine S.val hA (R.move rfl) rfl ?_; clear hA a; intro a hA
              refine S.val hA (R.idxI hrow16 (j := c_) sl22 rfl rfl (by omega) (rfl)) rfl ?_; clear hA a; intro a hA
              refine S.val hA (R.loadI (hrow16.mem hM) sz3 rfl (by omega)) rfl ?_; clear hA a; intro a hA
              refine S.call hA (R.callF Tryd.func30 rfl rfl rfl) rfl (rwrite_any (((i.cost.getD r [])).getD c_ 0) (by omega) _) ?_; clear hA a
              rintro e w11 ⟨rfl, hb⟩
              replace hM := hM.callB hb; clear hb
              refine ⟨.string ((bs (Lib.itoa (((i.cost.getD r [])).getD c_ 0)))), rfl, fun a hA => ?_⟩
              refine S.val hA (R.to (v := .string (bs (((((([84, 83, 80, 32] : List UInt8) ++ Lib.itoa i.n) ++ ([32, 70, 85, 76, 76, 10] : List UInt8)) ++ rowsB i r) ++ joinP (i.cost.getD r []) c_) ++ Lib.itoa (((i.cost.getD r [])).getD c_ 0)))) (R.addS rfl rfl (by show (bs (((((([84, 83, 80, 32] : List UInt8) ++ Lib.itoa i.n) ++ ([32, 70, 85, 76, 76, 10] : List UInt8)) ++ rowsB i r) ++ joinP (i.cost.getD r []) c_))).size + (bs (Lib.itoa (((i.cost.getD r [])).getD c_ 0))).size ≤ _; simp only [bs_size, List.length_append, List.length_cons, List.length_nil]; omega)) (congrArg Value.string (bs_app (((((([84, 83, 80, 32] : List UInt8) ++ Lib.itoa i.n) ++ ([32, 70, 85, 76, 76, 10] : List UInt8)) ++ rowsB i r) ++ joinP (i.cost.getD r []) c_)) (Lib.itoa (((i.cost.getD r [])).getD c_ 0))))) rfl ?_; clear hA a; intro a hA
              refine S.val hA (R.assign rfl) rfl ?_; clear hA a; intro a hA
              refine S.done ?_
              replace hA : St 93 [(1, _), (8, _), (9, _), (10, _)] a := hA.sub ((.cons rfl (.cons rfl (.cons rfl (.cons rfl .nil)))))
              refine Ends.inBlock ?_
              refine Ends.region ?_
              refine S.val hA (R.move rfl) rfl ?_; clear hA a; intro a hA
              refine S.val hA (R.addI rfl rfl (r := ((c_ : Int)) + 1) rfl (by omega)) rfl ?_; clear hA a; intro a hA
              refine S.val hA (R.assign rfl) rfl ?_; clear hA a; intro a hA
              refine S.done ?_
              replace hA : St 93 [(1, _), (8, _), (9, _), (10, _)] a := hA.sub ((.cons rfl (.cons rfl (.cons rfl (.cons rfl .nil)))))
              have hc00 : c_ = 0 := by omega
              rw [show (((((([84, 83, 80, 32] : List UInt8) ++ Lib.itoa i.n) ++ ([32, 70, 85, 76, 76, 10] : List UInt8)) ++ rowsB i r) ++ joinP (i.cost.getD r []) c_) ++ Lib.itoa (((i.cost.getD r [])).getD c_ 0)) = ((((([84, 83, 80, 32] : List UInt8) ++ Lib.itoa i.n) ++ ([32, 70, 85, 76, 76, 10] : List UInt8)) ++ rowsB i r) ++ joinP (i.cost.getD r []) (c_ + 1)) by rw [hc00, joinP_zero, joinP_first (by omega), List.append_nil]] at hA
              exact hNext2 ((c_ + 1)) _ _ ((by show i.n.toNat - (c_ + 1) < i.n.toNat - c_; omega)) ⟨hA.sub ((.cons rfl (.cons rfl (.cons rfl (.cons rfl .nil))))), hM, (by omega)⟩
          ·
            obtain rfl : c_ = i.n.toNat := by omega
            have hjl := joinP_len hbr i.n.toNat
            refine Ends.exit rfl ?_
            replace hA : St 93 [(1, _), (8, _), (9, _)] a := hA.sub ((.cons rfl (.cons rfl (.cons rfl .nil))))
            refine Ends.region ?_
            refine S.val hA (R.move rfl) rfl ?_; clear hA a; intro a hA
            refine S.val hA (R.to (v := .string (bs (((((([84, 83, 80, 32] : List UInt8) ++ Lib.itoa i.n) ++ ([32, 70, 85, 76, 76, 10] : List UInt8)) ++ rowsB i r) ++ joinP (i.cost.getD r []) i.n.toNat) ++ ([10] : List UInt8)))) (R.addS rfl rfl (by show (bs (((((([84, 83, 80, 32] : List UInt8) ++ Lib.itoa i.n) ++ ([32, 70, 85, 76, 76, 10] : List UInt8)) ++ rowsB i r) ++ joinP (i.cost.getD r []) i.n.toNat))).size + (bs (([10] : List UInt8))).size ≤ _; simp only [bs_size, List.length_append, List.length_cons, List.length_nil]; omega)) (congrArg Value.string (bs_app (((((([84, 83, 80, 32] : List UInt8) ++ Lib.itoa i.n) ++ ([32, 70, 85, 76, 76, 10] : List UInt8)) ++ rowsB i r) ++ joinP (i.cost.getD r []) i.n.toNat)) (([10] : List UInt8))))) rfl ?_; clear hA a; intro a hA
            refine S.val hA (R.assign rfl) rfl ?_; clear hA a; intro a hA
            refine S.done ?_
            replace hA : St 93 [(1, _), (8, _), (9, _)] a := hA.sub ((.cons rfl (.cons rfl (.cons rfl .nil))))
            refine Ends.inBlock ?_
            refine Ends.region ?_
            refine S.val hA (R.move rfl) rfl ?_; clear hA a; intro a hA
            refine S.val hA (R.addI rfl rfl (r := ((r : Int)) + 1) rfl (by omega)) rfl ?_; clear hA a; intro a hA
            refine S.val hA (R.assign rfl) rfl ?_; clear hA a; intro a hA
            refine S.done ?_
            replace hA : St 93 [(1, _), (8, _), (9, _)] a := hA.sub ((.cons rfl (.cons rfl (.cons rfl .nil))))
            rw [show (((((([84, 83, 80, 32] : List UInt8) ++ Lib.itoa i.n) ++ ([32, 70, 85, 76, 76, 10] : List UInt8)) ++ rowsB i r) ++ joinP (i.cost.getD r []) i.n.toNat) ++ ([10] : List UInt8)) = ((([84, 83, 80, 32] : List UInt8) ++ Lib.itoa i.n) ++ ([32, 70, 85, 76, 76, 10] : List UInt8)) ++ rowsB i (r + 1) by rw [rowsB, ← joinP_all, hrr]; simp only [List.append_assoc]] at hA
            exact hNext1 ((r + 1)) _ _ ((by show i.n.toNat - (r + 1) < i.n.toNat - r; omega)) ⟨hA.sub ((.cons rfl (.cons rfl (.cons rfl .nil)))), hM, (by omega)⟩
        ·
          obtain rfl : r = i.n.toNat := by omega
          refine Ends.exit rfl ?_
          replace hA : St 93 [(8, _)] a := hA.sub ((.cons rfl .nil))
          refine Ends.seq ?_
          refine Ends.region ?_
          refine S.val hA (R.move rfl) rfl ?_; clear hA a; intro a hA
          refine S.val hA (R.assign rfl) rfl ?_; clear hA a; intro a hA
          refine S.val hA (R.assign rfl) rfl ?_; clear hA a; intro a hA
          refine S.done ?_
          replace hA : St 93 [(2, _), (3, _)] a := hA.sub ((.cons rfl (.cons rfl .nil)))
          refine Ends.ret2 Tryd.func21 Tryd.results21 hA rfl rfl ?_
          have he : wtxt i = (((([84, 83, 80, 32] : List UInt8) ++ Lib.itoa i.n) ++ ([32, 70, 85, 76, 76, 10] : List UInt8)) ++ rowsB i i.n.toNat) := by
            have hc0 : i.cost.length = i.n.toNat := by omega
            unfold wtxt textB headB
            rw [if_pos hz, if_neg hk1, if_neg hk1, hc0]
            rw [if_neg (show ¬ i.kind = 2 by omega)]
            simp [nameB, List.append_assoc]
          exact ⟨by rw [he, hz], Mem.trans0 hbs hM.nilL⟩
      ·
        have hk3 := hc6
        refine Ends.skip ?_
        refine Ends.seq ?_
        refine Ends.seq ?_
        refine Ends.region ?_
        refine S.val hA (R.assign rfl) rfl ?_; clear hA a; intro a hA
        refine S.done ?_
        replace hA : St 93 [(1, _), (8, _), (9, _)] a := hA.sub ((.cons rfl (.cons rfl (.cons rfl .nil))))
        refine Ends.block ?_
        rw [show bs (((([65, 83, 83, 73, 71, 78, 77, 69, 78, 84, 32] : List UInt8) ++ Lib.itoa i.n) ++ ([10] : List UInt8))) = bs (((([65, 83, 83, 73, 71, 78, 77, 69, 78, 84, 32] : List UInt8) ++ Lib.itoa i.n) ++ ([10] : List UInt8)) ++ rowsB i 0) by simp [rowsB]] at hA
        refine Ends.loop (σ := Nat) (fun r (a : Act) (wv : World) => St 93 [(1, .pointer (some ⟨b1, 0, none⟩)), (8, .string ((bs ((((([65, 83, 83, 73, 71, 78, 77, 69, 78, 84, 32] : List UInt8) ++ Lib.itoa i.n) ++ ([10] : List UInt8)) ++ rowsB i r))))), (9, .int .i64 ((r : Int)))] a ∧ Mem w nof [pt b1 #[.int .i64 i.kind, .int .i64 i.n, .int .i64 i.cap, .slice ax3 i.wt.length cx3, .slice ax4 i.vl.length cx4, .slice ax5 i.cost.length cx5] 25] wv ∧ (r ≤ i.n.toNat)) (fun r => i.n.toNat - r) 0 ⟨hA.sub ((.cons rfl (.cons rfl (.cons rfl .nil)))), hM, (Nat.zero_le _)⟩ ?_
        clear hA hM a
        rintro r a w12 ⟨hA, hM, hr⟩ hNext1
        refine Ends.seq ?_
        refine Ends.seq ?_
        refine Ends.region ?_
        refine S.val hA (R.move rfl) rfl ?_; clear hA a; intro a hA
        refine S.val hA (R.fieldAddr (q := 1) fi25_1 rfl rfl rfl) rfl ?_; clear hA a; intro a hA
        refine S.val hA (R.load sz3 rfl (hM.cell (k := 0) rfl rfl)) rfl ?_; clear hA a; intro a hA
        refine S.val hA (R.lss rfl rfl) rfl ?_; clear hA a; intro a hA
        refine S.done ?_
        replace hA : St 93 [(1, _), (8, _), (9, _), (66, _)] a := hA.sub ((.cons rfl (.cons rfl (.cons rfl (.cons rfl .nil)))))
        refine Ends.ite hA rfl (fun hc18 => ?_) (fun hc18 => ?_)
        ·
          have hrl := rowsB_len hF r (by omega)
          have hbr := hF.rowbd r
          have hrr := hF.row r (by omega)
          refine Ends.skip ?_
          refine Ends.seq ?_
          refine Ends.block ?_
          refine Ends.seq ?_
          refine Ends.seq ?_
          refine Ends.region ?_
          refine S.val hA (R.assign rfl) rfl ?_; clear hA a; intro a hA
          refine S.done ?_
          replace hA : St 93 [(1, _), (8, _), (9, _), (10, _)] a := hA.sub ((.cons rfl (.cons rfl (.cons rfl (.cons rfl .nil)))))
          refine Ends.block ?_
          rw [show bs (((([65, 83, 83, 73, 71, 78, 77, 69, 78, 84, 32] : List UInt8) ++ Lib.itoa i.n) ++ ([10] : List UInt8)) ++ rowsB i r) = bs ((((([65, 83, 83, 73, 71, 78, 77, 69, 78, 84, 32] : List UInt8) ++ Lib.itoa i.n) ++ ([10] : List UInt8)) ++ rowsB i r) ++ joinP (i.cost.getD r []) 0) by rw [joinP_zero, List.append_nil]] at hA
          refine Ends.loop (σ := Nat) (fun c_ (a : Act) (wv : World) => St 93 [(1, .pointer (some ⟨b1, 0, none⟩)), (8, .string ((bs (((((([65, 83, 83, 73, 71, 78, 77, 69, 78, 84, 32] : List UInt8) ++ Lib.itoa i.n) ++ ([10] : List UInt8)) ++ rowsB i r) ++ joinP (i.cost.getD r []) c_))))), (9, .int .i64 ((r : Int))), (10, .int .i64 ((c_ : Int)))] a ∧ Mem w nof [pt b1 #[.int .i64 i.kind, .int .i64 i.n, .int .i64 i.cap, .slice ax3 i.wt.length cx3, .slice ax4 i.vl.length cx4, .slice ax5 i.cost.length cx5] 25] wv ∧ (c_ ≤ i.n.toNat)) (fun c_ => i.n.toNat - c_) 0 ⟨hA.sub ((.cons rfl (.cons rfl (.cons rfl (.cons rfl .nil))))), hM, (Nat.zero_le _)⟩ ?_
          clear hA hM a
          rintro c_ a w13 ⟨hA, hM, hcn⟩ hNext2
          refine Ends.seq ?_
          refine Ends.seq ?_
          refine Ends.region ?_
          refine S.val hA (R.move rfl) rfl ?_; clear hA a; intro a hA
          refine S.val hA (R.fieldAddr (q := 1) fi25_1 rfl rfl rfl) rfl ?_; clear hA a; intro a hA
          refine S.val hA (R.load sz3 rfl (hM.cell (k := 0) rfl rfl)) rfl ?_; clear hA a; intro a hA
          refine S.val hA (R.lss rfl rfl) rfl ?_; clear hA a; intro a hA
          refine S.done ?_
          replace hA : St 93 [(1, _), (8, _), (9, _), (10, _), (72, _)] a := hA.sub ((.cons rfl (.cons rfl (.cons rfl (.cons rfl (.cons rfl .nil))))))
          refine Ends.ite hA rfl (fun hc19 => ?_) (fun hc19 => ?_)
          ·
            have hjl := joinP_len hbr c_
            have g1 := hF.cell r c_
            have i1 := itoa_len' (n := (i.cost.getD r []).getD c_ 0) (by unfold bd64; omega)
            refine Ends.skip ?_
            refine Ends.seq ?_
            refine Ends.block ?_
            refine Ends.seq ?_
            refine Ends.seq ?_
            refine Ends.region ?_
            refine S.val hA (R.move rfl) rfl ?_; clear hA a; intro a hA
            refine S.val hA (R.gtr rfl rfl) rfl ?_; clear hA a; intro a hA
            refine S.done ?_
            replace hA : St 93 [(1, _), (8, _), (9, _), (10, _), (76, _)] a := hA.sub ((.cons rfl (.cons rfl (.cons rfl (.cons rfl (.cons rfl .nil))))))
            refine Ends.ite hA rfl (fun hc20 => ?_) (fun hc20 => ?_)
            ·
              refine Ends.region ?_
              refine S.val hA (R.move rfl) rfl ?_; clear hA a; intro a hA
              refine S.val hA (R.to (v := .string (bs (((((([65, 83, 83, 73, 71, 78, 77, 69, 78, 84, 32] : List UInt8) ++ Lib.itoa i.n) ++ ([10] : List UInt8)) ++ rowsB i r) ++ joinP (i.cost.getD r []) c_) ++ ([32] : List UInt8)))) (R.addS rfl rfl (by show (bs (((((([65, 83, 83, 73, 71, 78, 77, 69, 78, 84, 32] : List UInt8) ++ Lib.itoa i.n) ++ ([10] : List UInt8)) ++ rowsB i r) ++ joinP (i.cost.getD r []) c_))).size + (bs (([32] : List UInt8))).size ≤ _; simp only [bs_size, List.length_append, List.length_cons, List.length_nil]; omega)) (congrArg Value.string (bs_app (((((([65, 83, 83, 73, 71, 78, 77, 69, 78, 84, 32] : List UInt8) ++ Lib.itoa i.n) ++ ([10] : List UInt8)) ++ rowsB i r) ++ joinP (i.cost.getD r []) c_)) (([32] : List UInt8))))) rfl ?_; clear hA a; intro a hA
              refine S.val hA (R.assign rfl) rfl ?_; clear hA a; intro a hA
              refine S.done ?_
              replace hA : St 93 [(1, _), (8, _), (9, _), (10, _)] a := hA.sub ((.cons rfl (.cons rfl (.cons rfl (.cons rfl .nil)))))
              refine Ends.region ?_
              refine S.val hA (R.move rfl) rfl ?_; clear hA a; intro a hA
              refine S.val hA (R.fieldAddr (q := 5) fi25_5 rfl rfl rfl) rfl ?_; clear hA a; intro a hA
              refine S.val hA (R.load sz23 rfl (hM.cell (k := 0) rfl rfl)) rfl ?_; clear hA a; intro a hA
              refine S.val hA (R.move rfl) rfl ?_; clear hA a; intro a hA
              refine S.val hA (R.idxR hx5 (j := r) sl23 rfl rfl (by omega) (rfl)) rfl ?_; clear hA a; intro a hA
              obtain ⟨ra21, rc22, hrow23, hld24⟩ := hx5.atP (i := r) (by omega)
              refine S.val hA (hld24 _ _ _ _ _ _ hM sz22 rfl) rfl ?_; clear hA a; intro a hA
              refine S.val hA (R.move rfl) rfl ?_; clear hA a; intro a hA
              refine S.val hA (R.idxI hrow23 (j := c_) sl22 rfl rfl (by omega) (rfl)) rfl ?_; clear hA a; intro a hA
              refine S.val hA (R.loadI (hrow23.mem hM) sz3 rfl (by omega)) rfl ?_; clear hA a; intro a hA
              refine S.call hA (R.callF Tryd.func30 rfl rfl rfl) rfl (rwrite_any (((i.cost.getD r [])).getD c_ 0) (by omega) _) ?_; clear hA a
              rintro e w14 ⟨rfl, hb⟩
              replace hM := hM.callB hb; clear hb
              refine ⟨.string ((bs (Lib.itoa (((i.cost.getD r [])).getD c_ 0)))), rfl, fun a hA => ?_⟩
              refine S.val hA (R.to (v := .string (bs ((((((([65, 83, 83, 73, 71, 78, 77, 69, 78, 84, 32] : List UInt8) ++ Lib.itoa i.n) ++ ([10] : List UInt8)) ++ rowsB i r) ++ joinP (i.cost.getD r []) c_) ++ ([32] : List UInt8)) ++ Lib.itoa (((i.cost.getD r [])).getD c_ 0)))) (R.addS rfl rfl (by show (bs ((((((([65, 83, 83, 73, 71, 78, 77, 69, 78, 84, 32] : List UInt8) ++ Lib.itoa i.n) ++ ([10] : List UInt8)) ++ rowsB i r) ++ joinP (i.cost.getD r []) c_) ++ ([32] : List UInt8)))).size + (bs (Lib.itoa (((i.cost.getD r [])).getD c_ 0))).size ≤ _; simp only [bs_size, List.length_append, List.length_cons, List.length_nil]; omega)) (congrArg Value.string (bs_app ((((((([65, 83, 83, 73, 71, 78, 77, 69, 78, 84, 32] : List UInt8) ++ Lib.itoa i.n) ++ ([10] : List UInt8)) ++ rowsB i r) ++ joinP (i.cost.getD r []) c_) ++ ([32] : List UInt8))) (Lib.itoa (((i.cost.getD r [])).getD c_ 0))))) rfl ?_; clear hA a; intro a hA
              refine S.val hA (R.assign rfl) rfl ?_; clear hA a; intro a hA
              refine S.done ?_
              replace hA : St 93 [(1, _), (8, _), (9, _), (10, _)] a := hA.sub ((.cons rfl (.cons rfl (.cons rfl (.cons rfl .nil)))))
              refine Ends.inBlock ?_
              refine Ends.region ?_
              refine S.val hA (R.move rfl) rfl ?_; clear hA a; intro a hA
              refine S.val hA (R.addI rfl rfl (r := ((c_ : Int)) + 1) rfl (by omega)) rfl ?_; clear hA a; intro a hA
              refine S.val hA (R.assign rfl) rfl ?_; clear hA a; intro a hA
              refine S.done ?_
              replace hA : St 93 [(1, _), (8, _), (9, _), (10, _)] a := hA.sub ((.cons rfl (.cons rfl (.cons rfl (.cons rfl .nil)))))
              rw [show ((((((([65, 83, 83, 73, 71, 78, 77, 69, 78, 84, 32] : List UInt8) ++ Lib.itoa i.n) ++ ([10] : List UInt8)) ++ rowsB i r) ++ joinP (i.cost.getD r []) c_) ++ ([32] : List UInt8)) ++ Lib.itoa (((i.cost.getD r [])).getD c_ 0)) = ((((([65, 83, 83, 73, 71, 78, 77, 69, 78, 84, 32] : List UInt8) ++ Lib.itoa i.n) ++ ([10] : List UInt8)) ++ rowsB i r) ++ joinP (i.cost.getD r []) (c_ + 1)) by rw [joinP_snoc (by omega) (by omega)]; simp only [List.append_assoc]] at hA
              exact hNext2 ((c_ + 1)) _ _ ((by show i.n.toNat - (c_ + 1) < i.n.toNat - c_; omega)) ⟨hA.sub ((.cons rfl (.cons rfl (.cons rfl (.cons rfl .nil))))), hM, (by omega)⟩
            ·
              refine Ends.skip ?_
              refine Ends.region ?_
              refine S.val hA (R.move rfl) rfl ?_; clear hA a; intro a hA
              refine S.val hA (R.fieldAddr (q := 5) fi25_5 rfl rfl rfl) rfl ?_; clear hA a; intro a hA
              refine S.val hA (R.load sz23 rfl (hM.cell (k := 0) rfl rfl)) rfl ?_; clear hA a; intro a hA
              refine S.val hA (R.move rfl) rfl ?_; clear hA a; intro a hA
              refine S.val hA (R.idxR hx5 (j := r) sl23 rfl rfl (by omega) (rfl)) rfl ?_; clear hA a; intro a hA
              obtain ⟨ra25, rc26, hrow27, hld28⟩ := hx5.atP (i := r) (by omega)
              refine S.val hA (hld28 _ _ _ _ _ _ hM sz22 rfl) rfl ?_; clear hA a; intro a hA
              refine S.val hA (R.move rfl) rfl ?_; clear hA a; intro a hA
              refine S.val hA (R.idxI hrow27 (j := c_) sl22 rfl rfl (by omega) (rfl)) rfl ?_; clear hA a; intro a hA
              refine S.val hA (R.loadI (hrow27.mem hM) sz3 rfl (by omega)) rfl ?_; clear hA a; intro a hA
              refine S.call hA (R.callF Tryd.func30 rfl rfl rfl) rfl (rwrite_any (((i.cost.getD r [])).getD c_ 0) (by omega) _) ?_; clear hA a
              rintro e w15 ⟨rfl, hb⟩
              replace hM := hM.callB hb; clear hb
              refine ⟨.string ((bs (Lib.itoa (((i.cost.getD r [])).getD c_ 0)))), rfl, fun a hA => ?_⟩
              refine S.val hA (R.to (v := .string (bs (((((([65, 83, 83, 73, 71, 78, 77, 69, 78, 84, 32] : List UInt8) ++ Lib.itoa i.n) ++ ([10] : List UInt8)) ++ rowsB i r) ++ joinP (i.cost.getD r []) c_) ++ Lib.itoa (((i.cost.getD r [])).getD c_ 0)))) (R.addS rfl rfl (by show (bs (((((([65, 83, 83, 73, 71, 78, 77, 69, 78, 84, 32] : List UInt8) ++ Lib.itoa i.n) ++ ([10] : List UInt8)) ++ rowsB i r) ++ joinP (i.cost.getD r []) c_))).size + (bs (Lib.itoa (((i.cost.getD r [])).getD c_ 0))).size ≤ _; simp only [bs_size, List.length_append, List.length_cons, List.length_nil]; omega)) (congrArg Value.string (bs_app (((((([65, 83, 83, 73, 71, 78, 77, 69, 78, 84, 32] : List UInt8) ++ Lib.itoa i.n) ++ ([10] : List UInt8)) ++ rowsB i r) ++ joinP (i.cost.getD r []) c_)) (Lib.itoa (((i.cost.getD r [])).getD c_ 0))))) rfl ?_; clear hA a; intro a hA
              refine S.val hA (R.assign rfl) rfl ?_; clear hA a; intro a hA
              refine S.done ?_
              replace hA : St 93 [(1, _), (8, _), (9, _), (10, _)] a := hA.sub ((.cons rfl (.cons rfl (.cons rfl (.cons rfl .nil)))))
              refine Ends.inBlock ?_
              refine Ends.region ?_
              refine S.val hA (R.move rfl) rfl ?_; clear hA a; intro a hA
              refine S.val hA (R.addI rfl rfl (r := ((c_ : Int)) + 1) rfl (by omega)) rfl ?_; clear hA a; intro a hA
              refine S.val hA (R.assign rfl) rfl ?_; clear hA a; intro a hA
              refine S.done ?_
              replace hA : St 93 [(1, _), (8, _), (9, _), (10, _)] a := hA.sub ((.cons rfl (.cons rfl (.cons rfl (.cons rfl .nil)))))
              have hc00 : c_ = 0 := by omega
              rw [show (((((([65, 83, 83, 73, 71, 78, 77, 69, 78, 84, 32] : List UInt8) ++ Lib.itoa i.n) ++ ([10] : List UInt8)) ++ rowsB i r) ++ joinP (i.cost.getD r []) c_) ++ Lib.itoa (((i.cost.getD r [])).getD c_ 0)) = ((((([65, 83, 83, 73, 71, 78, 77, 69, 78, 84, 32] : List UInt8) ++ Lib.itoa i.n) ++ ([10] : List UInt8)) ++ rowsB i r) ++ joinP (i.cost.getD r []) (c_ + 1)) by rw [hc00, joinP_zero, joinP_first (by omega), List.append_nil]] at hA
              exact hNext2 ((c_ + 1)) _ _ ((by show i.n.toNat - (c_ + 1) < i.n.toNat - c_; omega)) ⟨hA.sub ((.cons rfl (.cons rfl (.cons rfl (.cons rfl .nil))))), hM, (by omega)⟩
          ·
            obtain rfl : c_ = i.n.toNat := by omega
            have hjl := joinP_len hbr i.n.toNat
            refine Ends.exit rfl ?_
            replace hA : St 93 [(1, _), (8, _), (9, _)] a := hA.sub ((.cons rfl (.cons rfl (.cons rfl .nil))))
            refine Ends.region ?_
            refine S.val hA (R.move rfl) rfl ?_; clear hA a; intro a hA
            refine S.val hA (R.to (v := .string (bs (((((([65, 83, 83, 73, 71, 78, 77, 69, 78, 84, 32] : List UInt8) ++ Lib.itoa i.n) ++ ([10] : List UInt8)) ++ rowsB i r) ++ joinP (i.cost.getD r []) i.n.toNat) ++ ([10] : List UInt8)))) (R.addS rfl rfl (by show (bs (((((([65, 83, 83, 73, 71, 78, 77, 69, 78, 84, 32] : List UInt8) ++ Lib.itoa i.n) ++ ([10] : List UInt8)) ++ rowsB i r) ++ joinP (i.cost.getD r []) i.n.toNat))).size + (bs (([10] : List UInt8))).size ≤ _; simp only [bs_size, List.length_append, List.length_cons, List.length_nil]; omega)) (congrArg Value.string (bs_app (((((([65, 83, 83, 73, 71, 78, 77, 69, 78, 84, 32] : List UInt8) ++ Lib.itoa i.n) ++ ([10] : List UInt8)) ++ rowsB i r) ++ joinP (i.cost.getD r []) i.n.toNat)) (([10] : List UInt8))))) rfl ?_; clear hA a; intro a hA
            refine S.val hA (R.assign rfl) rfl ?_; clear hA a; intro a hA
            refine S.done ?_
            replace hA : St 93 [(1, _), (8, _), (9, _)] a := hA.sub ((.cons rfl (.cons rfl (.cons rfl .nil))))
            refine Ends.inBlock ?_
            refine Ends.region ?_
            refine S.val hA (R.move rfl) rfl ?_; clear hA a; intro a hA
            refine S.val hA (R.addI rfl rfl (r := ((r : Int)) + 1) rfl (by omega)) rfl ?_; clear hA a; intro a hA
            refine S.val hA (R.assign rfl) rfl ?_; clear hA a; intro a hA
            refine S.done ?_
            replace hA : St 93 [(1, _), (8, _), (9, _)] a := hA.sub ((.cons rfl (.cons rfl (.cons rfl .nil))))
            rw [show (((((([65, 83, 83, 73, 71, 78, 77, 69, 78, 84, 32] : List UInt8) ++ Lib.itoa i.n) ++ ([10] : List UInt8)) ++ rowsB i r) ++ joinP (i.cost.getD r []) i.n.toNat) ++ ([10] : List UInt8)) = ((([65, 83, 83, 73, 71, 78, 77, 69, 78, 84, 32] : List UInt8) ++ Lib.itoa i.n) ++ ([10] : List UInt8)) ++ rowsB i (r + 1) by rw [rowsB, ← joinP_all, hrr]; simp only [List.append_assoc]] at hA
            exact hNext1 ((r + 1)) _ _ ((by show i.n.toNat - (r + 1) < i.n.toNat - r; omega)) ⟨hA.sub ((.cons rfl (.cons rfl (.cons rfl .nil)))), hM, (by omega)⟩
        ·
          obtain rfl : r = i.n.toNat := by omega
          refine Ends.exit rfl ?_
          replace hA : St 93 [(8, _)] a := hA.sub ((.cons rfl .nil))
          refine Ends.seq ?_
          refine Ends.region ?_
          refine S.val hA (R.move rfl) rfl ?_; clear hA a; intro a hA
          refine S.val hA (R.assign rfl) rfl ?_; clear hA a; intro a hA
          refine S.val hA (R.assign rfl) rfl ?_; clear hA a; intro a hA
          refine S.done ?_
          replace hA : St 93 [(2, _), (3, _)] a := hA.sub ((.cons rfl (.cons rfl .nil)))
          refine Ends.ret2 Tryd.func21 Tryd.results21 hA rfl rfl ?_
          have he : wtxt i = (((([65, 83, 83, 73, 71, 78, 77, 69, 78, 84, 32] : List UInt8) ++ Lib.itoa i.n) ++ ([10] : List UInt8)) ++ rowsB i i.n.toNat) := by
            have hc0 : i.cost.length = i.n.toNat := by omega
            unfold wtxt textB headB
            rw [if_pos hz, if_neg hk1, if_neg hk1, hc0]
            rw [if_pos (show i.kind = 2 by omega), line1]
            simp [nameB, List.append_assoc]
          exact ⟨by rw [he, hz], Mem.trans0 hbs hM.nilL⟩
def iO : Ins := ⟨1, 1, 5, [3], [4], []⟩
theorem chk_o : chk iO = 0 := by rw [chk_items (by decide) (.inl ⟨rfl, rfl, rfl, rfl⟩) rfl]; decide
theorem wtxt_o : wtxt iO = [75, 78, 65, 80, 83, 65, 67, 75, 32, 49, 32, 53, 10, 51, 32, 52, 10] := by unfold wtxt; rw [if_pos chk_o]; decide +kernel
theorem write_o (a3 : Option Addr) (c3 : Nat) (a4 : Option Addr) (c4 : Nat) (w : World) (h3 : IntSl w (.slice a3 ([3] : List Int).length c3) [3]) (h4 : IntSl w (.slice a4 ([4] : List Int).length c4) [4]) (htab : Lib.TabIs Tryd.prog w "internal/strconv.uint64pow10" .u64 Lib.pow10Tab) :
    Calls Tryd.prog 20 #[.agg #[.int .i64 1, .int .i64 1, .int .i64 5, .slice a3 ([3] : List Int).length c3, .slice a4 ([4] : List Int).length c4, .slice none 0 0]] w fun e w' => e = .returned (.tuple #[.string (bs [75, 78, 65, 80, 83, 65, 67, 75, 32, 49, 32, 53, 10, 51, 32, 52, 10]), .int .i64 0]) ∧ Below w.heap.size w w' := by
  have h := write05 iO a3 c3 a4 c4 none 0 ⟨by decide, by decide⟩ w h3 h4 (RowsV.nil w) htab
  rwa [wtxt_o, chk_o] at h
set_option maxRecDepth 100000 in
set_option maxHeartbeats 400000 in
theorem insts_any  (w : World) (htab : Lib.TabIs Tryd.prog w "internal/strconv.uint64pow10" .u64 Lib.pow10Tab) :
    Calls Tryd.prog 17 #[] w fun e w' => e = .returned (.bool true) ∧ Below w.heap.size w w' := by
  have hbs := Below.refl (B := w.heap.size) w
  have hM := Mem.start w
  refine Calls.of_ends (vs := []) Tryd.func17 rfl Tryd.ntmps17 rfl ?_
  intro a hA
  replace hA : St 24 [] a := hA
  refine Ends.seq ?_
  refine Ends.region ?_
  refine S.val hA (R.assign rfl) rfl ?_; clear hA a; intro a hA
  refine S.done ?_
  replace hA : St 24 [] a := hA.sub (.nil)
  refine Ends.seq ?_
  refine Ends.region ?_
  refine S.buildSl (cells := #[.int .i64 3]) hA hM Tryd.underlying22 info3 rfl rfl rfl rfl (by kernel_rfl) rfl ?_; clear hA hM a; intro b1 w1 hb2 hM a hA
  replace hM : Mem _ _ [pt b1 #[.int .i64 3] 3] _ := hM
  refine S.buildSl (cells := #[.int .i64 4]) hA hM Tryd.underlying22 info3 rfl rfl rfl rfl (by kernel_rfl) rfl ?_; clear hA hM a; intro b3 w2 hb4 hM a hA
  replace hM : Mem _ _ [pt b3 #[.int .i64 4] 3, pt b1 #[.int .i64 3] 3] _ := hM
  refine S.val hA (R.build (cells := #[.int .i64 1, .int .i64 1, .int .i64 5, .slice (some ⟨b1, 0, none⟩) 1 1, .slice (some ⟨b3, 0, none⟩) 1 1, .slice none 0 0]) rfl (by kernel_rfl)) rfl ?_; clear hA a; intro a hA
  have hq5 := hM.ptRs (k := 1) (X := ([3] : List Int)) rfl (by decide)
  have hq6 := hM.ptRs (k := 0) (X := ([4] : List Int)) rfl (by decide)
  refine S.call hA (R.callF Tryd.func20 rfl rfl rfl) rfl (write_o (some ⟨b1, 0, none⟩) 1 (some ⟨b3, 0, none⟩) 1 _ hq5 hq6 (tab_below htab (Mem.trans0 hbs hM.nilL))) ?_; clear hA a
  rintro e w3 ⟨rfl, hb⟩
  replace hM := hM.callB hb; clear hb
  refine ⟨.tuple #[.string ((bs (([75, 78, 65, 80, 83, 65, 67, 75, 32, 49, 32, 53, 10, 51, 32, 52, 10] : List UInt8)))), .int .i64 0], rfl, fun a hA => ?_⟩
  refine S.val hA (R.move rfl) rfl ?_; clear hA a; intro a hA
  refine S.val hA (R.extract (v := .string ((bs (([75, 78, 65, 80, 83, 65, 67, 75, 32, 49, 32, 53, 10, 51, 32, 52, 10] : List UInt8))))) rfl rfl) rfl ?_; clear hA a; intro a hA
  refine S.val hA (R.extract (v := .int .i64 0) rfl rfl) rfl ?_; clear hA a; intro a hA
  refine S.val hA (R.assign rfl) rfl ?_; clear hA a; intro a hA
  refine S.val hA (R.assign rfl) rfl ?_; clear hA a; intro a hA
  refine S.done ?_
  replace hA : St 24 [(1, _), (2, _)] a := hA.sub ((.cons rfl (.cons rfl .nil)))
  refine Ends.seq ?_
  refine Ends.region ?_
  refine S.val hA (R.move rfl) rfl ?_; clear hA a; intro a hA
  refine S.val hA (R.tt (R.eql rfl rfl) (by first | decide | simp | omega)) rfl ?_; clear hA a; intro a hA
  refine S.val hA (R.move rfl) rfl ?_; clear hA a; intro a hA
  refine S.valg (dj := 12) hA (by kernel_rfl) rfl (R.move rfl) rfl ?_; clear hA a; intro a hA
  refine S.valg (dj := 12) hA (by kernel_rfl) rfl (R.tt (R.eqlStr rfl rfl) (rfl)) rfl ?_; clear hA a; intro a hA
  refine S.val hA (R.pickT rfl rfl) rfl ?_; clear hA a; intro a hA
  refine S.val hA (R.move rfl) rfl ?_; clear hA a; intro a hA
  refine S.callg (dj := 16) hA (by kernel_rfl) rfl (R.callF Tryd.func23 rfl rfl rfl) rfl (name05 3 _) ?_; clear hA a
  rintro e w4 ⟨rfl, hb⟩
  replace hM := hM.callB hb; clear hb
  refine ⟨.string ((bs (([84, 83, 80] : List UInt8)))), rfl, fun a hA => ?_⟩
  refine S.valg (dj := 16) hA (by kernel_rfl) rfl (R.tt (R.eqlStr rfl rfl) (rfl)) rfl ?_; clear hA a; intro a hA
  refine S.val hA (R.pickT rfl rfl) rfl ?_; clear hA a; intro a hA
  refine S.val hA (R.move rfl) rfl ?_; clear hA a; intro a hA
  refine S.callg (dj := 20) hA (by kernel_rfl) rfl (R.callF Tryd.func23 rfl rfl rfl) rfl (name05 0 _) ?_; clear hA a
  rintro e w5 ⟨rfl, hb⟩
  replace hM := hM.callB hb; clear hb
  refine ⟨.string ((bs (([] : List UInt8)))), rfl, fun a hA => ?_⟩
  refine S.valg (dj := 20) hA (by kernel_rfl) rfl (R.tt (R.eqlStr rfl rfl) (rfl)) rfl ?_; clear hA a; intro a hA
  refine S.val hA (R.pickT rfl rfl) rfl ?_; clear hA a; intro a hA
  refine S.val hA (R.assign rfl) rfl ?_; clear hA a; intro a hA
  refine S.done ?_
  replace hA : St 24 [(0, _)] a := hA.sub ((.cons rfl .nil))
  refine Ends.ret1 Tryd.func17 Tryd.results17 hA rfl ?_
  exact ⟨rfl, Mem.trans0 hbs hM.nilL⟩
set_option maxRecDepth 100000 in
set_option maxHeartbeats 400000 in
theorem instChecks_w (i : Ins) (ax3 : Option Addr) (cx3 : Nat) (ax4 : Option Addr) (cx4 : Nat) (ax5 : Option Addr) (cx5 : Nat) (w : World) (hx3 : IntSl w (.slice ax3 i.wt.length cx3) i.wt) (hx4 : IntSl w (.slice ax4 i.vl.length cx4) i.vl) (hx5 : RowsV w (.slice ax5 i.cost.length cx5) i.cost) (htab : Lib.TabIs Tryd.prog w "internal/strconv.uint64pow10" .u64 Lib.pow10Tab) :
    Calls Tryd.prog 3 #[.agg #[.int .i64 i.kind, .int .i64 i.n, .int .i64 i.cap, .slice ax3 i.wt.length cx3, .slice ax4 i.vl.length cx4, .slice ax5 i.cost.length cx5]] w fun e w' => e = .returned (.bool true) ∧ Below w.heap.size w w' := by
  have hbs := Below.refl (B := w.heap.size) w
  have hM := Mem.start w
  refine Calls.of_ends (vs := [.agg #[.int .i64 i.kind, .int .i64 i.n, .int .i64 i.cap, .slice ax3 i.wt.length cx3, .slice ax4 i.vl.length cx4, .slice ax5 i.cost.length cx5]]) Tryd.func3 rfl Tryd.ntmps3 rfl ?_
  intro a hA
  replace hA : St 13 [(0, _)] a := hA
  refine Ends.seq ?_
  refine Ends.region ?_
  refine S.box hA hM rfl rfl ?_; clear hA hM a; intro b1 w1 hb2 hM a hA
  replace hM : Mem _ _ [pt b1 #[.int .i64 i.kind, .int .i64 i.n, .int .i64 i.cap, .slice ax3 i.wt.length cx3, .slice ax4 i.vl.length cx4, .slice ax5 i.cost.length cx5] 25] _ := hM
  refine S.val hA (R.assign rfl) rfl ?_; clear hA a; intro a hA
  refine S.done ?_
  replace hA : St 13 [(1, _)] a := hA.sub ((.cons rfl .nil))
  refine Ends.seq ?_
  refine Ends.region ?_
  refine S.val hA (R.loadA sz25 rfl (hM.range (k := 0) rfl) rfl) rfl ?_; clear hA a; intro a hA
  obtain ⟨G, hGy⟩ : ∃ G, G = cutI i := ⟨_, rfl⟩
  have hsmy : smallI G := by rw [hGy]; exact cutI_small _
  have hscy := cutI_of_small hsmy
  have hsy1 := hsmy.1
  have hsy2 := hsmy.2.1
  have hsy3 := hsmy.2.2.1
  refine S.call hA (R.callF Tryd.func16 rfl rfl rfl) rfl (copyG i ax3 cx3 ax4 cx4 ax5 cx5 G hGy _ (hx3.mem hM) (hx4.mem hM) (hx5.mem hM)) ?_; clear hA a
  rintro e w2 ⟨ay3, cy3, ay4, cy4, ay5, cy5, rsy, rfl, hYy, hn⟩
  replace hM : Mem _ _ [bundle (insL 3 22 G ay3 cy3 ay4 cy4 ay5 cy5 rsy), pt b1 #[.int .i64 i.kind, .int .i64 i.n, .int .i64 i.cap, .slice ax3 i.wt.length cx3, .slice ax4 i.vl.length cx4, .slice ax5 i.cost.length cx5] 25] _ := hM.call hn; clear hn
  refine ⟨.agg #[.int .i64 G.kind, .int .i64 G.n, .int .i64 G.cap, .slice ay3 G.wt.length cy3, .slice ay4 G.vl.length cy4, .slice ay5 rsy.length cy5], rfl, fun a hA => ?_⟩
  refine S.storeA (k := 1) hA hM sz25 rfl rfl rfl rfl rfl rfl ?_; clear hM
  intro w3 hM
  replace hM : Mem _ _ [bundle (insL 3 22 G ay3 cy3 ay4 cy4 ay5 cy5 rsy), pt b1 #[.int .i64 G.kind, .int .i64 G.n, .int .i64 G.cap, .slice ay3 G.wt.length cy3, .slice ay4 G.vl.length cy4, .slice ay5 rsy.length cy5] 25] _ := hM
  refine S.done ?_
  replace hA : St 13 [(1, _)] a := hA.sub ((.cons rfl .nil))
  refine Ends.seq ?_
  obtain ⟨-, hy3, hy4, hy5⟩ := insR_of hM (k := 0) rfl hYy
  have hlcy : rsy.length = G.cost.length := by rw [← hYy, List.length_map]
  replace hM := hM.drop 0
  rw [hlcy] at hM
  replace hM : Mem _ _ [pt b1 #[.int .i64 G.kind, .int .i64 G.n, .int .i64 G.cap, .slice ay3 G.wt.length cy3, .slice ay4 G.vl.length cy4, .slice ay5 G.cost.length cy5] 25] _ := hM
  have hbx3 := hM.block (k := 0) rfl
  have hbs := hbs.trans (hM.below.mono hbs.size)
  have hx3 := hx3.mem hM
  have hx4 := hx4.mem hM
  have hx5 := hx5.mem hM
  replace hM := Mem.start w3
  refine Ends.drawn (Mem w3 nof []) (.cons (0, false) (.cons (1, true) (.cons (2, true) (.cons (4, true) (.cons (3, false) (.cons (5, false) (.cons (6, true) (.cons (7, true) (.cons (8, true) .nil))))))))) 9 mixed (by kernel_rfl) (by kernel_rfl) (by kernel_rfl) hM.drew ?_
  replace hM := hM.drew
  refine D.call hA rfl (R.callF Tryd.func17 rfl rfl rfl) rfl (insts_any _ (tab_below htab (Mem.trans0 hbs hM.nilL))) ?_; clear hA a
  rintro e w4 ⟨rfl, hb⟩
  replace hM := hM.callB hb; clear hb
  refine ⟨.bool true, rfl, hM, fun a hA => ?_⟩
  refine D.valF hA rfl (fun _ => R.move rfl) rfl ?_; clear hA a; intro a hA
  refine D.valg (dj := 6) hA rfl (by kernel_rfl) (by kernel_rfl) rfl (fun _ hM => R.loadA sz25 rfl (hM.oldRange hbx3) rfl) rfl ?_; clear hA a; intro a hA
  refine D.valg (dj := 6) hA rfl (by kernel_rfl) (by kernel_rfl) rfl (fun _ hM => R.loadA sz25 rfl (hM.oldRange hbx3) rfl) rfl ?_; clear hA a; intro a hA
  refine D.callg (dj := 6) hA rfl (by kernel_rfl) rfl (R.callF Tryd.func18 rfl rfl rfl) rfl (check05 G ay3 cy3 ay4 cy4 ay5 cy5 ⟨by omega, by omega⟩ _ (hy3.mem hM) (hy4.mem hM) (hy5.mem hM)) ?_; clear hA a
  rintro e w5 ⟨rfl, hb⟩
  replace hM := hM.callB hb; clear hb
  refine ⟨.int .i64 (chk G), rfl, hM, fun a hA => ?_⟩
  refine D.callg (dj := 6) hA rfl (by kernel_rfl) rfl (R.callF Tryd.func19 rfl rfl rfl) rfl (rcheck05 G ay3 cy3 ay4 cy4 ay5 cy5 _ (hy3.mem hM) (hy4.mem hM) (hy5.mem hM)) ?_; clear hA a
  rintro e w6 ⟨rfl, hb⟩
  replace hM := hM.callB hb; clear hb
  refine ⟨.int .i64 (chk G), rfl, hM, fun a hA => ?_⟩
  refine D.valgF (dj := 6) hA rfl (by kernel_rfl) rfl (fun _ => R.tt (R.eql rfl rfl) (by first | decide | simp | omega)) rfl ?_; clear hA a; intro a hA
  refine D.valF hA rfl (fun _ => R.pickT rfl rfl) rfl ?_; clear hA a; intro a hA
  refine D.valF hA rfl (fun _ => R.assign rfl) rfl ?_; clear hA a; intro a hA
  refine D.done ?_
  replace hA : St 13 [(2, _)] a := hA.sub ((.cons rfl .nil))
  refine Ends.ret1 Tryd.func3 Tryd.results3 hA rfl ?_
  exact ⟨rfl, Mem.trans0 hbs hM.nilL⟩
theorem instChecks_any (v : Value) (i : Ins) (w : World) (h1 : InsV w v i) (_h2 : wfI i) (htab : Lib.TabIs Tryd.prog w "internal/strconv.uint64pow10" .u64 Lib.pow10Tab) :
    Calls Tryd.prog 3 #[v] w fun e w' => e = .returned (.bool true) ∧ Below w.heap.size w w' := by
  obtain ⟨aw, cw, av, cv, ac, cc, rfl, h3, h4, h5⟩ := h1.parts
  exact instChecks_w i aw cw av cv ac cc w h3 h4 h5 htab
set_option maxRecDepth 100000 in
set_option maxHeartbeats 400000 in
theorem instWrites_w (i : Ins) (ax3 : Option Addr) (cx3 : Nat) (ax4 : Option Addr) (cx4 : Nat) (ax5 : Option Addr) (cx5 : Nat) (w : World) (hx3 : IntSl w (.slice ax3 i.wt.length cx3) i.wt) (hx4 : IntSl w (.slice ax4 i.vl.length cx4) i.vl) (hx5 : RowsV w (.slice ax5 i.cost.length cx5) i.cost) (htab : Lib.TabIs Tryd.prog w "internal/strconv.uint64pow10" .u64 Lib.pow10Tab) :
    Calls Tryd.prog 4 #[.agg #[.int .i64 i.kind, .int .i64 i.n, .int .i64 i.cap, .slice ax3 i.wt.length cx3, .slice ax4 i.vl.length cx4, .slice ax5 i.cost.length cx5]] w fun e w' => e = .returned (.bool true) ∧ Below w.heap.size w w' := by
  have hbs := Below.refl (B := w.heap.size) w
  have hM := Mem.start w
  refine Calls.of_ends (vs := [.agg #[.int .i64 i.kind, .int .i64 i.n, .int .i64 i.cap, .slice ax3 i.wt.length cx3, .slice ax4 i.vl.length cx4, .slice ax5 i.cost.length cx5]]) Tryd.func4 rfl Tryd.ntmps4 rfl ?_
  intro a hA
  replace hA : St 38 [(0, _)] a := hA
  refine Ends.seq ?_
  refine Ends.region ?_
  refine S.box hA hM rfl rfl ?_; clear hA hM a; intro b1 w1 hb2 hM a hA
  replace hM : Mem _ _ [pt b1 #[.int .i64 i.kind, .int .i64 i.n, .int .i64 i.cap, .slice ax3 i.wt.length cx3, .slice ax4 i.vl.length cx4, .slice ax5 i.cost.length cx5] 25] _ := hM
  refine S.val hA (R.assign rfl) rfl ?_; clear hA a; intro a hA
  refine S.done ?_
  replace hA : St 38 [(1, _)] a := hA.sub ((.cons rfl .nil))
  refine Ends.seq ?_
  refine Ends.region ?_
  refine S.val hA (R.loadA sz25 rfl (hM.range (k := 0) rfl) rfl) rfl ?_; clear hA a; intro a hA
  obtain ⟨G, hGy⟩ : ∃ G, G = cutI i := ⟨_, rfl⟩
  have hsmy : smallI G := by rw [hGy]; exact cutI_small _
  have hscy := cutI_of_small hsmy
  have hsy1 := hsmy.1
  have hsy2 := hsmy.2.1
  have hsy3 := hsmy.2.2.1
  refine S.call hA (R.callF Tryd.func16 rfl rfl rfl) rfl (copyG i ax3 cx3 ax4 cx4 ax5 cx5 G hGy _ (hx3.mem hM) (hx4.mem hM) (hx5.mem hM)) ?_; clear hA a
  rintro e w2 ⟨ay3, cy3, ay4, cy4, ay5, cy5, rsy, rfl, hYy, hn⟩
  replace hM : Mem _ _ [bundle (insL 3 22 G ay3 cy3 ay4 cy4 ay5 cy5 rsy), pt b1 #[.int .i64 i.kind, .int .i64 i.n, .int .i64 i.cap, .slice ax3 i.wt.length cx3, .slice ax4 i.vl.length cx4, .slice ax5 i.cost.length cx5] 25] _ := hM.call hn; clear hn
  refine ⟨.agg #[.int .i64 G.kind, .int .i64 G.n, .int .i64 G.cap, .slice ay3 G.wt.length cy3, .slice ay4 G.vl.length cy4, .slice ay5 rsy.length cy5], rfl, fun a hA => ?_⟩
  refine S.storeA (k := 1) hA hM sz25 rfl rfl rfl rfl rfl rfl ?_; clear hM
  intro w3 hM
  replace hM : Mem _ _ [bundle (insL 3 22 G ay3 cy3 ay4 cy4 ay5 cy5 rsy), pt b1 #[.int .i64 G.kind, .int .i64 G.n, .int .i64 G.cap, .slice ay3 G.wt.length cy3, .slice ay4 G.vl.length cy4, .slice ay5 rsy.length cy5] 25] _ := hM
  refine S.done ?_
  replace hA : St 38 [(1, _)] a := hA.sub ((.cons rfl .nil))
  refine Ends.seq ?_
  obtain ⟨-, hy3, hy4, hy5⟩ := insR_of hM (k := 0) rfl hYy
  have hlcy : rsy.length = G.cost.length := by rw [← hYy, List.length_map]
  replace hM := hM.drop 0
  rw [hlcy] at hM
  replace hM : Mem _ _ [pt b1 #[.int .i64 G.kind, .int .i64 G.n, .int .i64 G.cap, .slice ay3 G.wt.length cy3, .slice ay4 G.vl.length cy4, .slice ay5 G.cost.length cy5] 25] _ := hM
  have hbx3 := hM.block (k := 0) rfl
  have hbs := hbs.trans (hM.below.mono hbs.size)
  have hx3 := hx3.mem hM
  have hx4 := hx4.mem hM
  have hx5 := hx5.mem hM
  replace hM := Mem.start w3
  refine Ends.region ?_
  refine S.val hA (R.loadA sz25 rfl (hM.oldRange hbx3) rfl) rfl ?_; clear hA a; intro a hA
  refine S.call hA (R.callF Tryd.func16 rfl rfl rfl) rfl (copyS G ay3 cy3 ay4 cy4 ay5 cy5 hscy _ (hy3.mem hM) (hy4.mem hM) (hy5.mem hM)) ?_; clear hA a
  rintro e w4 ⟨az3, cz3, az4, cz4, az5, cz5, rfl, ⟨hz3, hz4, hz5⟩, hb⟩
  replace hM := hM.callB hb; clear hb
  have hbs := hbs.trans (hM.below.mono hbs.size)
  have hx3 := hx3.mem hM
  have hx4 := hx4.mem hM
  have hx5 := hx5.mem hM
  have hy3 := hy3.mem hM
  have hy4 := hy4.mem hM
  have hy5 := hy5.mem hM
  have hbx3 := hM.keepB hbx3
  replace hM := Mem.start w4
  refine ⟨.agg #[.int .i64 G.kind, .int .i64 G.n, .int .i64 G.cap, .slice az3 G.wt.length cz3, .slice az4 G.vl.length cz4, .slice az5 G.cost.length cz5], rfl, fun a hA => ?_⟩
  refine S.alloc hA hM info25 rfl rfl ?_; clear hA hM a; intro b4 w5 hb5 hM a hA
  replace hM : Mem _ _ [pt b4 #[.int .i64 0, .int .i64 0, .int .i64 0, .slice none 0 0, .slice none 0 0, .slice none 0 0] 25] _ := hM
  refine S.storeA (k := 0) hA hM sz25 rfl rfl rfl rfl rfl rfl ?_; clear hM
  intro w6 hM
  replace hM : Mem _ _ [pt b4 #[.int .i64 G.kind, .int .i64 G.n, .int .i64 G.cap, .slice az3 G.wt.length cz3, .slice az4 G.vl.length cz4, .slice az5 G.cost.length cz5] 25] _ := hM
  refine S.done ?_
  replace hA : St 38 [(1, _), (3, _)] a := hA.sub ((.cons rfl (.cons rfl .nil)))
  refine Ends.seq ?_
  refine Ends.region ?_
  refine S.val hA (R.loadA sz25 rfl (hM.oldRange hbx3) rfl) rfl ?_; clear hA a; intro a hA
  refine S.call hA (R.callF Tryd.func20 rfl rfl rfl) rfl (write05 G ay3 cy3 ay4 cy4 ay5 cy5 ⟨by omega, by omega⟩ _ (hy3.mem hM) (hy4.mem hM) (hy5.mem hM) (tab_below htab (Mem.trans0 hbs hM.nilL))) ?_; clear hA a
  rintro e w7 ⟨rfl, hb⟩
  replace hM := hM.callB hb; clear hb
  refine ⟨.tuple #[.string ((bs (wtxt G))), .int .i64 (chk G)], rfl, fun a hA => ?_⟩
  refine S.val hA (R.move rfl) rfl ?_; clear hA a; intro a hA
  refine S.val hA (R.extract (v := .string ((bs (wtxt G)))) rfl rfl) rfl ?_; clear hA a; intro a hA
  refine S.val hA (R.extract (v := .int .i64 (chk G)) rfl rfl) rfl ?_; clear hA a; intro a hA
  refine S.val hA (R.assign rfl) rfl ?_; clear hA a; intro a hA
  refine S.val hA (R.assign rfl) rfl ?_; clear hA a; intro a hA
  refine S.done ?_
  replace hA : St 38 [(1, _), (3, _), (4, _), (5, _)] a := hA.sub ((.cons rfl (.cons rfl (.cons rfl (.cons rfl .nil)))))
  refine Ends.seq ?_
  refine Ends.region ?_
  refine S.val hA (R.loadA sz25 rfl (hM.range (k := 0) rfl) rfl) rfl ?_; clear hA a; intro a hA
  refine S.call hA (R.callF Tryd.func21 rfl rfl rfl) rfl (rwrite05 G az3 cz3 az4 cz4 az5 cz5 _ (hz3.mem hM) (hz4.mem hM) (hz5.mem hM)) ?_; clear hA a
  rintro e w8 ⟨rfl, hb⟩
  replace hM := hM.callB hb; clear hb
  refine ⟨.tuple #[.string ((bs (wtxt G))), .int .i64 (chk G)], rfl, fun a hA => ?_⟩
  refine S.val hA (R.move rfl) rfl ?_; clear hA a; intro a hA
  refine S.val hA (R.extract (v := .string ((bs (wtxt G)))) rfl rfl) rfl ?_; clear hA a; intro a hA
  refine S.val hA (R.extract (v := .int .i64 (chk G)) rfl rfl) rfl ?_; clear hA a; intro a hA
  refine S.val hA (R.assign rfl) rfl ?_; clear hA a; intro a hA
  refine S.val hA (R.assign rfl) rfl ?_; clear hA a; intro a hA
  refine S.done ?_
  replace hA : St 38 [(1, _), (3, _), (4, _), (5, _), (6, _), (7, _)] a := hA.sub ((.cons rfl (.cons rfl (.cons rfl (.cons rfl (.cons rfl (.cons rfl .nil)))))))
  refine Ends.seq ?_
  refine Ends.region ?_
  refine S.call hA (R.callF Tryd.func17 rfl rfl rfl) rfl (insts_any _ (tab_below htab (Mem.trans0 hbs hM.nilL))) ?_; clear hA a
  rintro e w9 ⟨rfl, hb⟩
  replace hM := hM.callB hb; clear hb
  refine ⟨.bool true, rfl, fun a hA => ?_⟩
  refine S.val hA (R.move rfl) rfl ?_; clear hA a; intro a hA
  refine S.valg (dj := 23) hA (by kernel_rfl) rfl (R.move rfl) rfl ?_; clear hA a; intro a hA
  refine S.valg (dj := 23) hA (by kernel_rfl) rfl (R.move rfl) rfl ?_; clear hA a; intro a hA
  refine S.valg (dj := 23) hA (by kernel_rfl) rfl (R.tt (R.eqlStr rfl rfl) (rfl)) rfl ?_; clear hA a; intro a hA
  refine S.val hA (R.pickT rfl rfl) rfl ?_; clear hA a; intro a hA
  refine S.val hA (R.move rfl) rfl ?_; clear hA a; intro a hA
  refine S.valg (dj := 28) hA (by kernel_rfl) rfl (R.move rfl) rfl ?_; clear hA a; intro a hA
  refine S.valg (dj := 28) hA (by kernel_rfl) rfl (R.move rfl) rfl ?_; clear hA a; intro a hA
  refine S.valg (dj := 28) hA (by kernel_rfl) rfl (R.tt (R.eql rfl rfl) (by first | decide | simp | omega)) rfl ?_; clear hA a; intro a hA
  refine S.val hA (R.pickT rfl rfl) rfl ?_; clear hA a; intro a hA
  refine S.val hA (R.move rfl) rfl ?_; clear hA a; intro a hA
  refine S.valg (dj := 33) hA (by kernel_rfl) rfl (R.loadA sz25 rfl (hM.oldRange hbx3) rfl) rfl ?_; clear hA a; intro a hA
  refine S.valg (dj := 33) hA (by kernel_rfl) rfl (R.loadA sz25 rfl (hM.range (k := 0) rfl) rfl) rfl ?_; clear hA a; intro a hA
  refine S.callg (dj := 33) hA (by kernel_rfl) rfl (R.callF Tryd.func22 rfl rfl rfl) rfl (rSame_eq G ay3 cy3 ay4 cy4 ay5 cy5 az3 cz3 az4 cz4 az5 cz5 _ (hy3.mem hM) (hy4.mem hM) (hy5.mem hM) (hz3.mem hM) (hz4.mem hM) (hz5.mem hM)) ?_; clear hA a
  rintro e w10 ⟨rfl, hb⟩
  replace hM := hM.callB hb; clear hb
  refine ⟨.bool true, rfl, fun a hA => ?_⟩
  refine S.val hA (R.pickT rfl rfl) rfl ?_; clear hA a; intro a hA
  refine S.val hA (R.assign rfl) rfl ?_; clear hA a; intro a hA
  refine S.done ?_
  replace hA : St 38 [(2, _)] a := hA.sub ((.cons rfl .nil))
  refine Ends.ret1 Tryd.func4 Tryd.results4 hA rfl ?_
  exact ⟨rfl, Mem.trans0 hbs hM.nilL⟩
theorem instWrites_any (v : Value) (i : Ins) (w : World) (h1 : InsV w v i) (_h2 : wfI i) (htab : Lib.TabIs Tryd.prog w "internal/strconv.uint64pow10" .u64 Lib.pow10Tab) :
    Calls Tryd.prog 4 #[v] w fun e w' => e = .returned (.bool true) ∧ Below w.heap.size w w' := by
  obtain ⟨aw, cw, av, cv, ac, cc, rfl, h3, h4, h5⟩ := h1.parts
  exact instWrites_w i aw cw av cv ac cc w h3 h4 h5 htab
end Go.Proofs.YtakfcekfmdjklaaDoor
