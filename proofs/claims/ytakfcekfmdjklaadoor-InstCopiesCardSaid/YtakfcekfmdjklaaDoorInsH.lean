/-
  inst.Same, inst.Copy.
-/
import Derived.Test.YtakfcekfmdjklaaDoorInsG
namespace Go.Proofs.YtakfcekfmdjklaaDoor
open Go.RowKit
theorem callsNil {P : Program} {f : FuncId} {vs : Array Value} {w : World} {R : Ending → World → Prop} (h : Calls P f vs w R) : Calls P f (vs ++ #[]) w R := by rwa [Array.append_empty]
theorem takeI_snoc {R : List (List Int)} {k : Nat} (h : k < R.length) : R.take (k + 1) = R.take k ++ [R.getD k []] := takeR_succ R k h
set_option maxRecDepth 100000 in
set_option maxHeartbeats 400000 in
theorem eqI05 (ax : Option Addr) (X : List Int) (cx : Nat) (ay : Option Addr) (Y : List Int) (cy : Nat) (w : World) (hx : IntSl w (.slice ax X.length cx) X) (hy : IntSl w (.slice ay Y.length cy) Y) :
    Calls Tryd.prog 46 #[.slice ax X.length cx, .slice ay Y.length cy] w fun e w' => e = .returned (.bool (decide (X = Y))) ∧ Below w.heap.size w w' := by
  have hbs := Below.refl (B := w.heap.size) w
  have hlx := hx.lenB
  have hM := Mem.start w
  refine Calls.of_ends (vs := [.slice ax X.length cx, .slice ay Y.length cy]) Tryd.func46 rfl Tryd.ntmps46 rfl ?_
  intro a hA
  replace hA : St 26 [(0, _), (1, _)] a := hA
  refine Ends.seq ?_
  refine Ends.region ?_
  refine S.val hA (R.assign rfl) rfl ?_; clear hA a; intro a hA
  refine S.done ?_
  replace hA : St 26 [(0, _), (1, _)] a := hA.sub ((.cons rfl (.cons rfl .nil)))
  refine Ends.seq ?_
  refine Ends.seq ?_
  refine Ends.region ?_
  refine S.val hA (R.move rfl) rfl ?_; clear hA a; intro a hA
  refine S.val hA (R.lenS Tryd.underlying22 rfl rfl) rfl ?_; clear hA a; intro a hA
  refine S.val hA (R.move rfl) rfl ?_; clear hA a; intro a hA
  refine S.val hA (R.lenS Tryd.underlying22 rfl rfl) rfl ?_; clear hA a; intro a hA
  refine S.val hA (R.neq rfl rfl) rfl ?_; clear hA a; intro a hA
  refine S.done ?_
  replace hA : St 26 [(0, _), (1, _), (10, _)] a := hA.sub ((.cons rfl (.cons rfl (.cons rfl .nil))))
  refine Ends.ite hA rfl (fun hc1 => ?_) (fun hc1 => ?_)
  ·
    refine Ends.seq ?_
    refine Ends.region ?_
    refine S.val hA (R.assign rfl) rfl ?_; clear hA a; intro a hA
    refine S.done ?_
    replace hA : St 26 [(0, _), (1, _), (4, _)] a := hA.sub ((.cons rfl (.cons rfl (.cons rfl .nil))))
    refine Ends.ret1 Tryd.func46 Tryd.results46 hA rfl ?_
    exact ⟨by rw [decide_eq_false (fun e => by subst e; omega)], Mem.trans0 hbs hM.nilL⟩
  ·
    have hln : X.length = Y.length := by omega
    refine Ends.skip ?_
    refine Ends.seq ?_
    refine Ends.seq ?_
    refine Ends.region ?_
    refine S.val hA (R.move rfl) rfl ?_; clear hA a; intro a hA
    refine S.val hA (R.lenS Tryd.underlying22 rfl rfl) rfl ?_; clear hA a; intro a hA
    refine S.val hA (R.move rfl) rfl ?_; clear hA a; intro a hA
    refine S.done ?_
    replace hA : St 26 [(0, _), (1, _), (12, _), (13, _)] a := hA.sub ((.cons rfl (.cons rfl (.cons rfl (.cons rfl .nil)))))
    refine Ends.block ?_
    refine Ends.loop (σ := Nat) (fun k (a : Act) (wv : World) => St 26 [(0, .slice ax X.length cx), (1, .slice ay Y.length cy), (12, .int .i64 ((X.length : Int))), (13, .int .i64 ((k : Int)))] a ∧ Mem w nof [] wv ∧ (k ≤ X.length) ∧ (X.take k = Y.take k)) (fun k => X.length - k) 0 ⟨hA.sub ((.cons rfl (.cons rfl (.cons rfl (.cons rfl .nil))))), hM, (Nat.zero_le _), rfl⟩ ?_
    clear hA hM a
    rintro k a w1 ⟨hA, hM, hk, hk2⟩ hNext
    refine Ends.seq ?_
    refine Ends.region ?_
    refine S.val hA (R.lss rfl rfl) rfl ?_; clear hA a; intro a hA
    refine S.done ?_
    replace hA : St 26 [(0, _), (1, _), (12, _), (13, _), (14, _)] a := hA.sub ((.cons rfl (.cons rfl (.cons rfl (.cons rfl (.cons rfl .nil))))))
    refine Ends.seq ?_
    refine Ends.ite hA rfl (fun hc2 => ?_) (fun hc2 => ?_)
    ·
      refine Ends.skip ?_
      refine Ends.seq ?_
      refine Ends.block ?_
      refine Ends.seq ?_
      refine Ends.region ?_
      refine S.val hA (R.move rfl) rfl ?_; clear hA a; intro a hA
      refine S.val hA (R.assign rfl) rfl ?_; clear hA a; intro a hA
      refine S.done ?_
      replace hA : St 26 [(0, _), (1, _), (5, _), (12, _), (13, _)] a := hA.sub ((.cons rfl (.cons rfl (.cons rfl (.cons rfl (.cons rfl .nil))))))
      refine Ends.seq ?_
      refine Ends.drawn (Mem w nof []) (.cons (0, true) (.cons (1, true) (.cons (2, true) (.cons (3, true) (.cons (4, true) (.cons (5, true) (.cons (6, true) (.cons (7, true) (.cons (8, true) .nil))))))))) 9 mixed (by kernel_rfl) (by kernel_rfl) (by kernel_rfl) hM.drew ?_
      replace hM := hM.drew
      refine D.valF hA rfl (fun _ => R.move rfl) rfl ?_; clear hA a; intro a hA
      refine D.valF hA rfl (fun _ => R.move rfl) rfl ?_; clear hA a; intro a hA
      refine D.valF hA rfl (fun _ => R.idxI hx (j := k) sl22 rfl rfl (by omega) (rfl)) rfl ?_; clear hA a; intro a hA
      refine D.val hA rfl (by kernel_rfl) (fun _ hM => R.loadI (hx.mem hM) sz3 rfl (by omega)) rfl ?_; clear hA a; intro a hA
      refine D.valF hA rfl (fun _ => R.move rfl) rfl ?_; clear hA a; intro a hA
      refine D.valF hA rfl (fun _ => R.move rfl) rfl ?_; clear hA a; intro a hA
      refine D.valF hA rfl (fun _ => R.idxI hy (j := k) sl22 rfl rfl (by omega) (rfl)) rfl ?_; clear hA a; intro a hA
      refine D.val hA rfl (by kernel_rfl) (fun _ hM => R.loadI (hy.mem hM) sz3 rfl (by omega)) rfl ?_; clear hA a; intro a hA
      refine D.valF hA rfl (fun _ => R.neq rfl rfl) rfl ?_; clear hA a; intro a hA
      refine D.done ?_
      replace hA : St 26 [(0, _), (1, _), (12, _), (13, _), (24, _)] a := hA.sub ((.cons rfl (.cons rfl (.cons rfl (.cons rfl (.cons rfl .nil))))))
      refine Ends.ite hA rfl (fun hc3 => ?_) (fun hc3 => ?_)
      ·
        refine Ends.seq ?_
        refine Ends.region ?_
        refine S.val hA (R.assign rfl) rfl ?_; clear hA a; intro a hA
        refine S.done ?_
        replace hA : St 26 [(0, _), (1, _), (4, _), (12, _), (13, _)] a := hA.sub ((.cons rfl (.cons rfl (.cons rfl (.cons rfl (.cons rfl .nil))))))
        refine Ends.ret1 Tryd.func46 Tryd.results46 hA rfl ?_
        exact ⟨by rw [decide_eq_false (fun e => by subst e; exact hc3 rfl)], Mem.trans0 hbs hM.nilL⟩
      ·
        refine Ends.skip ?_
        refine Ends.inBlock ?_
        refine Ends.region ?_
        refine S.val hA (R.addI rfl rfl (r := ((k : Int)) + 1) rfl (by omega)) rfl ?_; clear hA a; intro a hA
        refine S.val hA (R.move rfl) rfl ?_; clear hA a; intro a hA
        refine S.done ?_
        replace hA : St 26 [(0, _), (1, _), (12, _), (13, _)] a := hA.sub ((.cons rfl (.cons rfl (.cons rfl (.cons rfl .nil)))))
        exact hNext ((k + 1)) _ _ ((by show X.length - (k + 1) < X.length - k; omega)) ⟨hA.sub ((.cons rfl (.cons rfl (.cons rfl (.cons rfl .nil))))), hM, (by omega), (by rw [take_succ_getD X k (by omega), take_succ_getD Y k (by omega), hk2, show X.getD k 0 = Y.getD k 0 from Decidable.not_not.1 hc3])⟩
    ·
      refine Ends.exit rfl ?_
      replace hA : St 26 [] a := hA.sub (.nil)
      refine Ends.seq ?_
      refine Ends.region ?_
      refine S.val hA (R.assign rfl) rfl ?_; clear hA a; intro a hA
      refine S.done ?_
      replace hA : St 26 [(4, _)] a := hA.sub ((.cons rfl .nil))
      refine Ends.ret1 Tryd.func46 Tryd.results46 hA rfl ?_
      have hkl : k = X.length := by omega
      have hXY : X = Y := by rw [hkl, List.take_length, hln, List.take_length] at hk2; exact hk2
      exact ⟨by rw [decide_eq_true hXY], Mem.trans0 hbs hM.nilL⟩
set_option maxRecDepth 100000 in
set_option maxHeartbeats 400000 in
theorem eqR05 (ax : Option Addr) (X : List (List Int)) (cx : Nat) (ay : Option Addr) (Y : List (List Int)) (cy : Nat) (w : World) (hx : RowsV w (.slice ax X.length cx) X) (hy : RowsV w (.slice ay Y.length cy) Y) :
    Calls Tryd.prog 47 #[.slice ax X.length cx, .slice ay Y.length cy, .func (.func 46) #[] #[]] w fun e w' => e = .returned (.bool (decide (X = Y))) ∧ Below w.heap.size w w' := by
  have hbs := Below.refl (B := w.heap.size) w
  have hlx := hx.lenB
  have hM := Mem.start w
  refine Calls.of_ends (vs := [.slice ax X.length cx, .slice ay Y.length cy, .func (.func 46) #[] #[]]) Tryd.func47 rfl Tryd.ntmps47 rfl ?_
  intro a hA
  replace hA : St 32 [(0, _), (1, _), (2, _)] a := hA
  refine Ends.seq ?_
  refine Ends.region ?_
  refine S.val hA (R.assign rfl) rfl ?_; clear hA a; intro a hA
  refine S.done ?_
  replace hA : St 32 [(0, _), (1, _), (2, _)] a := hA.sub ((.cons rfl (.cons rfl (.cons rfl .nil))))
  refine Ends.seq ?_
  refine Ends.seq ?_
  refine Ends.region ?_
  refine S.val hA (R.move rfl) rfl ?_; clear hA a; intro a hA
  refine S.val hA (R.lenS Tryd.underlying23 rfl rfl) rfl ?_; clear hA a; intro a hA
  refine S.val hA (R.move rfl) rfl ?_; clear hA a; intro a hA
  refine S.val hA (R.lenS Tryd.underlying23 rfl rfl) rfl ?_; clear hA a; intro a hA
  refine S.val hA (R.neq rfl rfl) rfl ?_; clear hA a; intro a hA
  refine S.done ?_
  replace hA : St 32 [(0, _), (1, _), (2, _), (14, _)] a := hA.sub ((.cons rfl (.cons rfl (.cons rfl (.cons rfl .nil)))))
  refine Ends.ite hA rfl (fun hc1 => ?_) (fun hc1 => ?_)
  ·
    refine Ends.seq ?_
    refine Ends.region ?_
    refine S.val hA (R.assign rfl) rfl ?_; clear hA a; intro a hA
    refine S.done ?_
    replace hA : St 32 [(0, _), (1, _), (2, _), (6, _)] a := hA.sub ((.cons rfl (.cons rfl (.cons rfl (.cons rfl .nil)))))
    refine Ends.ret1 Tryd.func47 Tryd.results47 hA rfl ?_
    exact ⟨by rw [decide_eq_false (fun e => by subst e; omega)], Mem.trans0 hbs hM.nilL⟩
  ·
    have hln : X.length = Y.length := by omega
    refine Ends.skip ?_
    refine Ends.seq ?_
    refine Ends.seq ?_
    refine Ends.region ?_
    refine S.val hA (R.move rfl) rfl ?_; clear hA a; intro a hA
    refine S.val hA (R.lenS Tryd.underlying23 rfl rfl) rfl ?_; clear hA a; intro a hA
    refine S.val hA (R.move rfl) rfl ?_; clear hA a; intro a hA
    refine S.done ?_
    replace hA : St 32 [(1, _), (2, _), (15, _), (16, _), (17, _)] a := hA.sub ((.cons rfl (.cons rfl (.cons rfl (.cons rfl (.cons rfl .nil))))))
    refine Ends.block ?_
    refine Ends.loop (σ := Nat) (fun k (a : Act) (wv : World) => St 32 [(1, .slice ay Y.length cy), (2, .func (.func 46) #[] #[]), (15, .slice ax X.length cx), (16, .int .i64 ((X.length : Int))), (17, .int .i64 ((k : Int)))] a ∧ Mem w nof [] wv ∧ (k ≤ X.length) ∧ (X.take k = Y.take k)) (fun k => X.length - k) 0 ⟨hA.sub ((.cons rfl (.cons rfl (.cons rfl (.cons rfl (.cons rfl .nil)))))), hM, (Nat.zero_le _), rfl⟩ ?_
    clear hA hM a
    rintro k a w1 ⟨hA, hM, hk, hk2⟩ hNext
    refine Ends.seq ?_
    refine Ends.region ?_
    refine S.val hA (R.lss rfl rfl) rfl ?_; clear hA a; intro a hA
    refine S.done ?_
    replace hA : St 32 [(1, _), (2, _), (15, _), (16, _), (17, _), (18, _)] a := hA.sub ((.cons rfl (.cons rfl (.cons rfl (.cons rfl (.cons rfl (.cons rfl .nil)))))))
    refine Ends.seq ?_
    refine Ends.ite hA rfl (fun hc2 => ?_) (fun hc2 => ?_)
    ·
      refine Ends.skip ?_
      refine Ends.seq ?_
      refine Ends.block ?_
      refine Ends.seq ?_
      refine Ends.region ?_
      refine S.val hA (R.move rfl) rfl ?_; clear hA a; intro a hA
      refine S.val hA (R.idxR hx (j := k) sl23 rfl rfl (by omega) (rfl)) rfl ?_; clear hA a; intro a hA
      obtain ⟨ra3, rc4, hrow5, hld6⟩ := hx.atP (i := k) (by omega)
      refine S.val hA (hld6 _ _ _ _ _ _ hM sz22 rfl) rfl ?_; clear hA a; intro a hA
      refine S.val hA (R.assign rfl) rfl ?_; clear hA a; intro a hA
      refine S.val hA (R.assign rfl) rfl ?_; clear hA a; intro a hA
      refine S.done ?_
      replace hA : St 32 [(1, _), (2, _), (7, _), (8, _), (15, _), (16, _), (17, _)] a := hA.sub ((.cons rfl (.cons rfl (.cons rfl (.cons rfl (.cons rfl (.cons rfl (.cons rfl .nil))))))))
      refine Ends.seq ?_
      refine Ends.region ?_
      refine S.val hA (R.move rfl) rfl ?_; clear hA a; intro a hA
      refine S.val hA (R.move rfl) rfl ?_; clear hA a; intro a hA
      refine S.val hA (R.idxR hy (j := k) sl23 rfl rfl (by omega) (rfl)) rfl ?_; clear hA a; intro a hA
      obtain ⟨ra7, rc8, hrow9, hld10⟩ := hy.atP (i := k) (by omega)
      refine S.val hA (hld10 _ _ _ _ _ _ hM sz22 rfl) rfl ?_; clear hA a; intro a hA
      refine S.val hA (R.assign rfl) rfl ?_; clear hA a; intro a hA
      refine S.done ?_
      replace hA : St 32 [(1, _), (2, _), (8, _), (9, _), (15, _), (16, _), (17, _)] a := hA.sub ((.cons rfl (.cons rfl (.cons rfl (.cons rfl (.cons rfl (.cons rfl (.cons rfl .nil))))))))
      refine Ends.seq ?_
      refine Ends.region ?_
      refine S.val hA (R.move rfl) rfl ?_; clear hA a; intro a hA
      refine S.val hA (R.move rfl) rfl ?_; clear hA a; intro a hA
      refine S.val hA (R.move rfl) rfl ?_; clear hA a; intro a hA
      refine S.call hA (R.callV Tryd.func46 (by kernel_rfl) rfl rfl rfl) rfl (callsNil (eqI05 ra3 ((X.getD k [])) rc4 ra7 ((Y.getD k [])) rc8 _ (hrow5.mem hM) (hrow9.mem hM))) ?_; clear hA a
      rintro e w2 ⟨rfl, hb⟩
      replace hM := hM.callB hb; clear hb
      refine ⟨.bool (decide (((X.getD k [])) = ((Y.getD k [])))), rfl, fun a hA => ?_⟩
      refine S.val hA (R.notD rfl) rfl ?_; clear hA a; intro a hA
      refine S.done ?_
      replace hA : St 32 [(1, _), (2, _), (15, _), (16, _), (17, _), (30, _)] a := hA.sub ((.cons rfl (.cons rfl (.cons rfl (.cons rfl (.cons rfl (.cons rfl .nil)))))))
      refine Ends.ite hA rfl (fun hc11 => ?_) (fun hc11 => ?_)
      ·
        refine Ends.seq ?_
        refine Ends.region ?_
        refine S.val hA (R.assign rfl) rfl ?_; clear hA a; intro a hA
        refine S.done ?_
        replace hA : St 32 [(1, _), (2, _), (6, _), (15, _), (16, _), (17, _)] a := hA.sub ((.cons rfl (.cons rfl (.cons rfl (.cons rfl (.cons rfl (.cons rfl .nil)))))))
        refine Ends.ret1 Tryd.func47 Tryd.results47 hA rfl ?_
        exact ⟨by rw [decide_eq_false (fun e => by subst e; exact hc11 rfl)], Mem.trans0 hbs hM.nilL⟩
      ·
        refine Ends.skip ?_
        refine Ends.inBlock ?_
        refine Ends.region ?_
        refine S.val hA (R.addI rfl rfl (r := ((k : Int)) + 1) rfl (by omega)) rfl ?_; clear hA a; intro a hA
        refine S.val hA (R.move rfl) rfl ?_; clear hA a; intro a hA
        refine S.done ?_
        replace hA : St 32 [(1, _), (2, _), (15, _), (16, _), (17, _)] a := hA.sub ((.cons rfl (.cons rfl (.cons rfl (.cons rfl (.cons rfl .nil))))))
        exact hNext ((k + 1)) _ _ ((by show X.length - (k + 1) < X.length - k; omega)) ⟨hA.sub ((.cons rfl (.cons rfl (.cons rfl (.cons rfl (.cons rfl .nil)))))), hM, (by omega), (by rw [takeR_succ X k (by omega), takeR_succ Y k (by omega), hk2, show X.getD k [] = Y.getD k [] from Decidable.not_not.1 hc11])⟩
    ·
      refine Ends.exit rfl ?_
      replace hA : St 32 [] a := hA.sub (.nil)
      refine Ends.seq ?_
      refine Ends.region ?_
      refine S.val hA (R.assign rfl) rfl ?_; clear hA a; intro a hA
      refine S.done ?_
      replace hA : St 32 [(6, _)] a := hA.sub ((.cons rfl .nil))
      refine Ends.ret1 Tryd.func47 Tryd.results47 hA rfl ?_
      have hkl : k = X.length := by omega
      have hXY : X = Y := by rw [hkl, List.take_length, hln, List.take_length] at hk2; exact hk2
      exact ⟨by rw [decide_eq_true hXY], Mem.trans0 hbs hM.nilL⟩
set_option maxRecDepth 100000 in
set_option maxHeartbeats 400000 in
theorem iSame (i : Ins) (ax3 : Option Addr) (cx3 : Nat) (ax4 : Option Addr) (cx4 : Nat) (ax5 : Option Addr) (cx5 : Nat) (j : Ins) (ay3 : Option Addr) (cy3 : Nat) (ay4 : Option Addr) (cy4 : Nat) (ay5 : Option Addr) (cy5 : Nat) (w : World) (hx3 : IntSl w (.slice ax3 i.wt.length cx3) i.wt) (hx4 : IntSl w (.slice ax4 i.vl.length cx4) i.vl) (hx5 : RowsV w (.slice ax5 i.cost.length cx5) i.cost) (hy3 : IntSl w (.slice ay3 j.wt.length cy3) j.wt) (hy4 : IntSl w (.slice ay4 j.vl.length cy4) j.vl) (hy5 : RowsV w (.slice ay5 j.cost.length cy5) j.cost) :
    Calls Tryd.prog 26 #[.agg #[.int .i64 i.kind, .int .i64 i.n, .int .i64 i.cap, .slice ax3 i.wt.length cx3, .slice ax4 i.vl.length cx4, .slice ax5 i.cost.length cx5], .agg #[.int .i64 j.kind, .int .i64 j.n, .int .i64 j.cap, .slice ay3 j.wt.length cy3, .slice ay4 j.vl.length cy4, .slice ay5 j.cost.length cy5]] w fun e w' => e = .returned (.bool (decide (i = j))) ∧ Below w.heap.size w w' := by
  have hbs := Below.refl (B := w.heap.size) w
  have hM := Mem.start w
  refine Calls.of_ends (vs := [.agg #[.int .i64 i.kind, .int .i64 i.n, .int .i64 i.cap, .slice ax3 i.wt.length cx3, .slice ax4 i.vl.length cx4, .slice ax5 i.cost.length cx5], .agg #[.int .i64 j.kind, .int .i64 j.n, .int .i64 j.cap, .slice ay3 j.wt.length cy3, .slice ay4 j.vl.length cy4, .slice ay5 j.cost.length cy5]]) Tryd.func26 rfl Tryd.ntmps26 rfl ?_
  intro a hA
  replace hA : St 45 [(0, _), (1, _)] a := hA
  refine Ends.seq ?_
  refine Ends.region ?_
  refine S.box hA hM rfl rfl ?_; clear hA hM a; intro b1 w1 hb2 hM a hA
  replace hM : Mem _ _ [pt b1 #[.int .i64 i.kind, .int .i64 i.n, .int .i64 i.cap, .slice ax3 i.wt.length cx3, .slice ax4 i.vl.length cx4, .slice ax5 i.cost.length cx5] 25] _ := hM
  refine S.box hA hM rfl rfl ?_; clear hA hM a; intro b3 w2 hb4 hM a hA
  replace hM : Mem _ _ [pt b3 #[.int .i64 j.kind, .int .i64 j.n, .int .i64 j.cap, .slice ay3 j.wt.length cy3, .slice ay4 j.vl.length cy4, .slice ay5 j.cost.length cy5] 25, pt b1 #[.int .i64 i.kind, .int .i64 i.n, .int .i64 i.cap, .slice ax3 i.wt.length cx3, .slice ax4 i.vl.length cx4, .slice ax5 i.cost.length cx5] 25] _ := hM
  refine S.val hA (R.assign rfl) rfl ?_; clear hA a; intro a hA
  refine S.done ?_
  replace hA : St 45 [(2, _), (3, _)] a := hA.sub ((.cons rfl (.cons rfl .nil)))
  refine Ends.seq ?_
  refine Ends.cut (fun (a : Act) (wv : World) => St 45 [(4, .bool (decide ((((((i.kind = j.kind ∧ i.n = j.n) ∧ i.cap = j.cap) ∧ i.wt = j.wt) ∧ i.vl = j.vl) ∧ i.cost = j.cost))))] a ∧ Mem w nof [pt b3 #[.int .i64 j.kind, .int .i64 j.n, .int .i64 j.cap, .slice ay3 j.wt.length cy3, .slice ay4 j.vl.length cy4, .slice ay5 j.cost.length cy5] 25, pt b1 #[.int .i64 i.kind, .int .i64 i.n, .int .i64 i.cap, .slice ax3 i.wt.length cx3, .slice ax4 i.vl.length cx4, .slice ax5 i.cost.length cx5] 25] wv) ?_ (fun k2 hJ => ?_)
  · clear hA hM a; rintro a w3 ⟨hA, hM⟩
    refine Ends.ret1 Tryd.func26 Tryd.results26 hA rfl ?_
    exact ⟨congrArg (fun b => Ending.returned (.bool b)) (decide_eq_decide.2 ⟨fun h => Ins.ext h.1.1.1.1.1 h.1.1.1.1.2 h.1.1.1.2 h.1.1.2 h.1.2 h.2, fun e => by subst e; exact ⟨⟨⟨⟨⟨rfl, rfl⟩, rfl⟩, rfl⟩, rfl⟩, rfl⟩⟩), Mem.trans0 hbs hM.nilL⟩
  ·
    refine Ends.region ?_
    refine S.val hA (R.fieldAddr (q := 0) fi25_0 rfl rfl rfl) rfl ?_; clear hA a; intro a hA
    refine S.val hA (R.load sz3 rfl (hM.cell (k := 1) rfl rfl)) rfl ?_; clear hA a; intro a hA
    refine S.val hA (R.fieldAddr (q := 0) fi25_0 rfl rfl rfl) rfl ?_; clear hA a; intro a hA
    refine S.val hA (R.load sz3 rfl (hM.cell (k := 0) rfl rfl)) rfl ?_; clear hA a; intro a hA
    refine S.val hA (R.eql rfl rfl) rfl ?_; clear hA a; intro a hA
    refine S.val hA (R.move rfl) rfl ?_; clear hA a; intro a hA
    refine hA.split (d := 10) rfl ?_ ?_
    · clear hA; intro hg5 hA
      refine S.valg (dj := 10) hA (by kernel_rfl) rfl (R.fieldAddr (q := 1) fi25_1 rfl rfl rfl) rfl ?_; clear hA a; intro a hA
      refine S.valg (dj := 10) hA (by kernel_rfl) rfl (R.load sz3 rfl (hM.cell (k := 1) rfl rfl)) rfl ?_; clear hA a; intro a hA
      refine S.valg (dj := 10) hA (by kernel_rfl) rfl (R.fieldAddr (q := 1) fi25_1 rfl rfl rfl) rfl ?_; clear hA a; intro a hA
      refine S.valg (dj := 10) hA (by kernel_rfl) rfl (R.load sz3 rfl (hM.cell (k := 0) rfl rfl)) rfl ?_; clear hA a; intro a hA
      refine S.valg (dj := 10) hA (by kernel_rfl) rfl (R.eql rfl rfl) rfl ?_; clear hA a; intro a hA
      refine S.val hA (R.pickT rfl rfl) rfl ?_; clear hA a; intro a hA
      refine S.val hA (R.move rfl) rfl ?_; clear hA a; intro a hA
      refine hA.split (d := 17) rfl ?_ ?_
      · clear hA; intro hg6 hA
        refine S.valg (dj := 17) hA (by kernel_rfl) rfl (R.fieldAddr (q := 2) fi25_2 rfl rfl rfl) rfl ?_; clear hA a; intro a hA
        refine S.valg (dj := 17) hA (by kernel_rfl) rfl (R.load sz3 rfl (hM.cell (k := 1) rfl rfl)) rfl ?_; clear hA a; intro a hA
        refine S.valg (dj := 17) hA (by kernel_rfl) rfl (R.fieldAddr (q := 2) fi25_2 rfl rfl rfl) rfl ?_; clear hA a; intro a hA
        refine S.valg (dj := 17) hA (by kernel_rfl) rfl (R.load sz3 rfl (hM.cell (k := 0) rfl rfl)) rfl ?_; clear hA a; intro a hA
        refine S.valg (dj := 17) hA (by kernel_rfl) rfl (R.eql rfl rfl) rfl ?_; clear hA a; intro a hA
        refine S.val hA (R.pickT rfl rfl) rfl ?_; clear hA a; intro a hA
        refine S.val hA (R.move rfl) rfl ?_; clear hA a; intro a hA
        refine hA.split (d := 24) rfl ?_ ?_
        · clear hA; intro hg7 hA
          refine S.valg (dj := 24) hA (by kernel_rfl) rfl (R.fieldAddr (q := 3) fi25_3 rfl rfl rfl) rfl ?_; clear hA a; intro a hA
          refine S.valg (dj := 24) hA (by kernel_rfl) rfl (R.load sz22 rfl (hM.cell (k := 1) rfl rfl)) rfl ?_; clear hA a; intro a hA
          refine S.valg (dj := 24) hA (by kernel_rfl) rfl (R.fieldAddr (q := 3) fi25_3 rfl rfl rfl) rfl ?_; clear hA a; intro a hA
          refine S.valg (dj := 24) hA (by kernel_rfl) rfl (R.load sz22 rfl (hM.cell (k := 0) rfl rfl)) rfl ?_; clear hA a; intro a hA
          refine S.callg (dj := 24) hA (by kernel_rfl) rfl (R.callF Tryd.func46 rfl rfl rfl) rfl (eqI05 ax3 i.wt cx3 ay3 j.wt cy3 _ (hx3.mem hM) (hy3.mem hM)) ?_; clear hA a
          rintro e w4 ⟨rfl, hb⟩
          replace hM := hM.callB hb; clear hb
          refine ⟨.bool (decide (i.wt = j.wt)), rfl, fun a hA => ?_⟩
          refine S.val hA (R.pickT rfl rfl) rfl ?_; clear hA a; intro a hA
          refine S.val hA (R.move rfl) rfl ?_; clear hA a; intro a hA
          refine hA.split (d := 31) rfl ?_ ?_
          · clear hA; intro hg8 hA
            refine S.valg (dj := 31) hA (by kernel_rfl) rfl (R.fieldAddr (q := 4) fi25_4 rfl rfl rfl) rfl ?_; clear hA a; intro a hA
            refine S.valg (dj := 31) hA (by kernel_rfl) rfl (R.load sz22 rfl (hM.cell (k := 1) rfl rfl)) rfl ?_; clear hA a; intro a hA
            refine S.valg (dj := 31) hA (by kernel_rfl) rfl (R.fieldAddr (q := 4) fi25_4 rfl rfl rfl) rfl ?_; clear hA a; intro a hA
            refine S.valg (dj := 31) hA (by kernel_rfl) rfl (R.load sz22 rfl (hM.cell (k := 0) rfl rfl)) rfl ?_; clear hA a; intro a hA
            refine S.callg (dj := 31) hA (by kernel_rfl) rfl (R.callF Tryd.func46 rfl rfl rfl) rfl (eqI05 ax4 i.vl cx4 ay4 j.vl cy4 _ (hx4.mem hM) (hy4.mem hM)) ?_; clear hA a
            rintro e w5 ⟨rfl, hb⟩
            replace hM := hM.callB hb; clear hb
            refine ⟨.bool (decide (i.vl = j.vl)), rfl, fun a hA => ?_⟩
            refine S.val hA (R.pickT rfl rfl) rfl ?_; clear hA a; intro a hA
            refine S.val hA (R.move rfl) rfl ?_; clear hA a; intro a hA
            refine hA.split (d := 38) rfl ?_ ?_
            · clear hA; intro hg9 hA
              refine S.valg (dj := 38) hA (by kernel_rfl) rfl (R.fieldAddr (q := 5) fi25_5 rfl rfl rfl) rfl ?_; clear hA a; intro a hA
              refine S.valg (dj := 38) hA (by kernel_rfl) rfl (R.load sz23 rfl (hM.cell (k := 1) rfl rfl)) rfl ?_; clear hA a; intro a hA
              refine S.valg (dj := 38) hA (by kernel_rfl) rfl (R.fieldAddr (q := 5) fi25_5 rfl rfl rfl) rfl ?_; clear hA a; intro a hA
              refine S.valg (dj := 38) hA (by kernel_rfl) rfl (R.load sz23 rfl (hM.cell (k := 0) rfl rfl)) rfl ?_; clear hA a; intro a hA
              refine S.callg (dj := 38) hA (by kernel_rfl) rfl (R.callF Tryd.func47 rfl rfl rfl) rfl (eqR05 ax5 i.cost cx5 ay5 j.cost cy5 _ (hx5.mem hM) (hy5.mem hM)) ?_; clear hA a
              rintro e w6 ⟨rfl, hb⟩
              replace hM := hM.callB hb; clear hb
              refine ⟨.bool (decide (i.cost = j.cost)), rfl, fun a hA => ?_⟩
              refine S.val hA (R.pickT rfl rfl) rfl ?_; clear hA a; intro a hA
              refine S.val hA (R.assign rfl) rfl ?_; clear hA a; intro a hA
              refine S.done ?_
              replace hA : St 45 [(4, _)] a := hA.sub ((.cons rfl .nil))
              exact hJ _ _ ⟨hA.sub (.cons (by first | rfl | exact congrArg (fun b => some (Value.bool b)) (by first | exact decide_eq_decide.2 (by omega) | exact or_bool (by omega) | exact and_bool (by omega) | (simp; done) | (simp [hg5, hg6, hg7, hg8, hg9]; done) | (have h80 := hg5; (try simp at h80); have h81 := hg6; (try simp at h81); have h82 := hg7; (try simp at h82); have h83 := hg8; (try simp at h83); have h84 := hg9; (try simp at h84); simp [h80, h81, h82, h83, h84]; done) | exact (decide_eq_false (fun h9 => hg5 h9.1)).symm | exact (decide_eq_false (fun h9 => hg6 h9.1)).symm | exact (decide_eq_false (fun h9 => hg7 h9.1)).symm | exact (decide_eq_false (fun h9 => hg8 h9.1)).symm | exact (decide_eq_false (fun h9 => hg9 h9.1)).symm)) .nil), hM⟩
            · clear hA; intro hg9 hA
              refine S.no (dj := 38) hA (by kernel_rfl) rfl rfl rfl ?_; clear hA a; intro a hA
              refine S.no (dj := 38) hA (by kernel_rfl) rfl rfl rfl ?_; clear hA a; intro a hA
              refine S.no (dj := 38) hA (by kernel_rfl) rfl rfl rfl ?_; clear hA a; intro a hA
              refine S.no (dj := 38) hA (by kernel_rfl) rfl rfl rfl ?_; clear hA a; intro a hA
              refine S.no (dj := 38) hA (by kernel_rfl) rfl rfl rfl ?_; clear hA a; intro a hA
              refine S.val hA (R.pickF rfl rfl) rfl ?_; clear hA a; intro a hA
              refine S.val hA (R.assign rfl) rfl ?_; clear hA a; intro a hA
              refine S.done ?_
              replace hA : St 45 [(4, _)] a := hA.sub ((.cons rfl .nil))
              exact hJ _ _ ⟨hA.sub (.cons (by first | rfl | exact congrArg (fun b => some (Value.bool b)) (by first | exact decide_eq_decide.2 (by omega) | exact or_bool (by omega) | exact and_bool (by omega) | (simp; done) | (simp [hg5, hg6, hg7, hg8, hg9]; done) | (have h80 := hg5; (try simp at h80); have h81 := hg6; (try simp at h81); have h82 := hg7; (try simp at h82); have h83 := hg8; (try simp at h83); have h84 := hg9; (try simp at h84); simp [h80, h81, h82, h83, h84]; done) | exact (decide_eq_false (fun h9 => hg5 h9.1)).symm | exact (decide_eq_false (fun h9 => hg6 h9.1)).symm | exact (decide_eq_false (fun h9 => hg7 h9.1)).symm | exact (decide_eq_false (fun h9 => hg8 h9.1)).symm | exact (decide_eq_false (fun h9 => hg9 h9.1)).symm)) .nil), hM⟩
          · clear hA; intro hg8 hA
            refine S.no (dj := 31) hA (by kernel_rfl) rfl rfl rfl ?_; clear hA a; intro a hA
            refine S.no (dj := 31) hA (by kernel_rfl) rfl rfl rfl ?_; clear hA a; intro a hA
            refine S.no (dj := 31) hA (by kernel_rfl) rfl rfl rfl ?_; clear hA a; intro a hA
            refine S.no (dj := 31) hA (by kernel_rfl) rfl rfl rfl ?_; clear hA a; intro a hA
            refine S.no (dj := 31) hA (by kernel_rfl) rfl rfl rfl ?_; clear hA a; intro a hA
            refine S.val hA (R.pickF rfl rfl) rfl ?_; clear hA a; intro a hA
            refine S.val hA (R.move rfl) rfl ?_; clear hA a; intro a hA
            refine S.no (dj := 38) hA (by kernel_rfl) rfl rfl rfl ?_; clear hA a; intro a hA
            refine S.no (dj := 38) hA (by kernel_rfl) rfl rfl rfl ?_; clear hA a; intro a hA
            refine S.no (dj := 38) hA (by kernel_rfl) rfl rfl rfl ?_; clear hA a; intro a hA
            refine S.no (dj := 38) hA (by kernel_rfl) rfl rfl rfl ?_; clear hA a; intro a hA
            refine S.no (dj := 38) hA (by kernel_rfl) rfl rfl rfl ?_; clear hA a; intro a hA
            refine S.val hA (R.pickF rfl rfl) rfl ?_; clear hA a; intro a hA
            refine S.val hA (R.assign rfl) rfl ?_; clear hA a; intro a hA
            refine S.done ?_
            replace hA : St 45 [(4, _)] a := hA.sub ((.cons rfl .nil))
            exact hJ _ _ ⟨hA.sub (.cons (by first | rfl | exact congrArg (fun b => some (Value.bool b)) (by first | exact decide_eq_decide.2 (by omega) | exact or_bool (by omega) | exact and_bool (by omega) | (simp; done) | (simp [hg5, hg6, hg7, hg8]; done) | (have h80 := hg5; (try simp at h80); have h81 := hg6; (try simp at h81); have h82 := hg7; (try simp at h82); have h83 := hg8; (try simp at h83); simp [h80, h81, h82, h83]; done) | exact (decide_eq_false (fun h9 => hg5 h9.1)).symm | exact (decide_eq_false (fun h9 => hg6 h9.1)).symm | exact (decide_eq_false (fun h9 => hg7 h9.1)).symm | exact (decide_eq_false (fun h9 => hg8 h9.1)).symm)) .nil), hM⟩
        · clear hA; intro hg7 hA
          refine S.no (dj := 24) hA (by kernel_rfl) rfl rfl rfl ?_; clear hA a; intro a hA
          refine S.no (dj := 24) hA (by kernel_rfl) rfl rfl rfl ?_; clear hA a; intro a hA
          refine S.no (dj := 24) hA (by kernel_rfl) rfl rfl rfl ?_; clear hA a; intro a hA
          refine S.no (dj := 24) hA (by kernel_rfl) rfl rfl rfl ?_; clear hA a; intro a hA
          refine S.no (dj := 24) hA (by kernel_rfl) rfl rfl rfl ?_; clear hA a; intro a hA
          refine S.val hA (R.pickF rfl rfl) rfl ?_; clear hA a; intro a hA
          refine S.val hA (R.move rfl) rfl ?_; clear hA a; intro a hA
          refine S.no (dj := 31) hA (by kernel_rfl) rfl rfl rfl ?_; clear hA a; intro a hA
          refine S.no (dj := 31) hA (by kernel_rfl) rfl rfl rfl ?_; clear hA a; intro a hA
          refine S.no (dj := 31) hA (by kernel_rfl) rfl rfl rfl ?_; clear hA a; intro a hA
          refine S.no (dj := 31) hA (by kernel_rfl) rfl rfl rfl ?_; clear hA a; intro a hA
          refine S.no (dj := 31) hA (by kernel_rfl) rfl rfl rfl ?_; clear hA a; intro a hA
          refine S.val hA (R.pickF rfl rfl) rfl ?_; clear hA a; intro a hA
          refine S.val hA (R.move rfl) rfl ?_; clear hA a; intro a hA
          refine S.no (dj := 38) hA (by kernel_rfl) rfl rfl rfl ?_; clear hA a; intro a hA
          refine S.no (dj := 38) hA (by kernel_rfl) rfl rfl rfl ?_; clear hA a; intro a hA
          refine S.no (dj := 38) hA (by kernel_rfl) rfl rfl rfl ?_; clear hA a; intro a hA
          refine S.no (dj := 38) hA (by kernel_rfl) rfl rfl rfl ?_; clear hA a; intro a hA
          refine S.no (dj := 38) hA (by kernel_rfl) rfl rfl rfl ?_; clear hA a; intro a hA
          refine S.val hA (R.pickF rfl rfl) rfl ?_; clear hA a; intro a hA
          refine S.val hA (R.assign rfl) rfl ?_; clear hA a; intro a hA
          refine S.done ?_
          replace hA : St 45 [(4, _)] a := hA.sub ((.cons rfl .nil))
          exact hJ _ _ ⟨hA.sub (.cons (by first | rfl | exact congrArg (fun b => some (Value.bool b)) (by first | exact decide_eq_decide.2 (by omega) | exact or_bool (by omega) | exact and_bool (by omega) | (simp; done) | (simp [hg5, hg6, hg7]; done) | (have h80 := hg5; (try simp at h80); have h81 := hg6; (try simp at h81); have h82 := hg7; (try simp at h82); simp [h80, h81, h82]; done) | exact (decide_eq_false (fun h9 => hg5 h9.1)).symm | exact (decide_eq_false (fun h9 => hg6 h9.1)).symm | exact (decide_eq_false (fun h9 => hg7 h9.1)).symm)) .nil), hM⟩
      · clear hA; intro hg6 hA
        refine S.no (dj := 17) hA (by kernel_rfl) rfl rfl rfl ?_; clear hA a; intro a hA
        refine S.no (dj := 17) hA (by kernel_rfl) rfl rfl rfl ?_; clear hA a; intro a hA
        refine S.no (dj := 17) hA (by kernel_rfl) rfl rfl rfl ?_; clear hA a; intro a hA
        refine S.no (dj := 17) hA (by kernel_rfl) rfl rfl rfl ?_; clear hA a; intro a hA
        refine S.no (dj := 17) hA (by kernel_rfl) rfl rfl rfl ?_; clear hA a; intro a hA
        refine S.val hA (R.pickF rfl rfl) rfl ?_; clear hA a; intro a hA
        refine S.val hA (R.move rfl) rfl ?_; clear hA a; intro a hA
        refine S.no (dj := 24) hA (by kernel_rfl) rfl rfl rfl ?_; clear hA a; intro a hA
        refine S.no (dj := 24) hA (by kernel_rfl) rfl rfl rfl ?_; clear hA a; intro a hA
        refine S.no (dj := 24) hA (by kernel_rfl) rfl rfl rfl ?_; clear hA a; intro a hA
        refine S.no (dj := 24) hA (by kernel_rfl) rfl rfl rfl ?_; clear hA a; intro a hA
        refine S.no (dj := 24) hA (by kernel_rfl) rfl rfl rfl ?_; clear hA a; intro a hA
        refine S.val hA (R.pickF rfl rfl) rfl ?_; clear hA a; intro a hA
        refine S.val hA (R.move rfl) rfl ?_; clear hA a; intro a hA
        refine S.no (dj := 31) hA (by kernel_rfl) rfl rfl rfl ?_; clear hA a; intro a hA
        refine S.no (dj := 31) hA (by kernel_rfl) rfl rfl rfl ?_; clear hA a; intro a hA
        refine S.no (dj := 31) hA (by kernel_rfl) rfl rfl rfl ?_; clear hA a; intro a hA
        refine S.no (dj := 31) hA (by kernel_rfl) rfl rfl rfl ?_; clear hA a; intro a hA
        refine S.no (dj := 31) hA (by kernel_rfl) rfl rfl rfl ?_; clear hA a; intro a hA
        refine S.val hA (R.pickF rfl rfl) rfl ?_; clear hA a; intro a hA
        refine S.val hA (R.move rfl) rfl ?_; clear hA a; intro a hA
        refine S.no (dj := 38) hA (by kernel_rfl) rfl rfl rfl ?_; clear hA a; intro a hA
        refine S.no (dj := 38) hA (by kernel_rfl) rfl rfl rfl ?_; clear hA a; intro a hA
        refine S.no (dj := 38) hA (by kernel_rfl) rfl rfl rfl ?_; clear hA a; intro a hA
        refine S.no (dj := 38) hA (by kernel_rfl) rfl rfl rfl ?_; clear hA a; intro a hA
        refine S.no (dj := 38) hA (by kernel_rfl) rfl rfl rfl ?_; clear hA a; intro a hA
        refine S.val hA (R.pickF rfl rfl) rfl ?_; clear hA a; intro a hA
        refine S.val hA (R.assign rfl) rfl ?_; clear hA a; intro a hA
        refine S.done ?_
        replace hA : St 45 [(4, _)] a := hA.sub ((.cons rfl .nil))
        exact hJ _ _ ⟨hA.sub (.cons (by first | rfl | exact congrArg (fun b => some (Value.bool b)) (by first | exact decide_eq_decide.2 (by omega) | exact or_bool (by omega) | exact and_bool (by omega) | (simp; done) | (simp [hg5, hg6]; done) | (have h80 := hg5; (try simp at h80); have h81 := hg6; (try simp at h81); simp [h80, h81]; done) | exact (decide_eq_false (fun h9 => hg5 h9.1)).symm | exact (decide_eq_false (fun h9 => hg6 h9.1)).symm)) .nil), hM⟩
    · clear hA; intro hg5 hA
      refine S.no (dj := 10) hA (by kernel_rfl) rfl rfl rfl ?_; clear hA a; intro a hA
      refine S.no (dj := 10) hA (by kernel_rfl) rfl rfl rfl ?_; clear hA a; intro a hA
      refine S.no (dj := 10) hA (by kernel_rfl) rfl rfl rfl ?_; clear hA a; intro a hA
      refine S.no (dj := 10) hA (by kernel_rfl) rfl rfl rfl ?_; clear hA a; intro a hA
      refine S.no (dj := 10) hA (by kernel_rfl) rfl rfl rfl ?_; clear hA a; intro a hA
      refine S.val hA (R.pickF rfl rfl) rfl ?_; clear hA a; intro a hA
      refine S.val hA (R.move rfl) rfl ?_; clear hA a; intro a hA
      refine S.no (dj := 17) hA (by kernel_rfl) rfl rfl rfl ?_; clear hA a; intro a hA
      refine S.no (dj := 17) hA (by kernel_rfl) rfl rfl rfl ?_; clear hA a; intro a hA
      refine S.no (dj := 17) hA (by kernel_rfl) rfl rfl rfl ?_; clear hA a; intro a hA
      refine S.no (dj := 17) hA (by kernel_rfl) rfl rfl rfl ?_; clear hA a; intro a hA
      refine S.no (dj := 17) hA (by kernel_rfl) rfl rfl rfl ?_; clear hA a; intro a hA
      refine S.val hA (R.pickF rfl rfl) rfl ?_; clear hA a; intro a hA
      refine S.val hA (R.move rfl) rfl ?_; clear hA a; intro a hA
      refine S.no (dj := 24) hA (by kernel_rfl) rfl rfl rfl ?_; clear hA a; intro a hA
      refine S.no (dj := 24) hA (by kernel_rfl) rfl rfl rfl ?_; clear hA a; intro a hA
      refine S.no (dj := 24) hA (by kernel_rfl) rfl rfl rfl ?_; clear hA a; intro a hA
      refine S.no (dj := 24) hA (by kernel_rfl) rfl rfl rfl ?_; clear hA a; intro a hA
      refine S.no (dj := 24) hA (by kernel_rfl) rfl rfl rfl ?_; clear hA a; intro a hA
      refine S.val hA (R.pickF rfl rfl) rfl ?_; clear hA a; intro a hA
      refine S.val hA (R.move rfl) rfl ?_; clear hA a; intro a hA
      refine S.no (dj := 31) hA (by kernel_rfl) rfl rfl rfl ?_; clear hA a; intro a hA
      refine S.no (dj := 31) hA (by kernel_rfl) rfl rfl rfl ?_; clear hA a; intro a hA
      refine S.no (dj := 31) hA (by kernel_rfl) rfl rfl rfl ?_; clear hA a; intro a hA
      refine S.no (dj := 31) hA (by kernel_rfl) rfl rfl rfl ?_; clear hA a; intro a hA
      refine S.no (dj := 31) hA (by kernel_rfl) rfl rfl rfl ?_; clear hA a; intro a hA
      refine S.val hA (R.pickF rfl rfl) rfl ?_; clear hA a; intro a hA
      refine S.val hA (R.move rfl) rfl ?_; clear hA a; intro a hA
      refine S.no (dj := 38) hA (by kernel_rfl) rfl rfl rfl ?_; clear hA a; intro a hA
      refine S.no (dj := 38) hA (by kernel_rfl) rfl rfl rfl ?_; clear hA a; intro a hA
      refine S.no (dj := 38) hA (by kernel_rfl) rfl rfl rfl ?_; clear hA a; intro a hA
      refine S.no (dj := 38) hA (by kernel_rfl) rfl rfl rfl ?_; clear hA a; intro a hA
      refine S.no (dj := 38) hA (by kernel_rfl) rfl rfl rfl ?_; clear hA a; intro a hA
      refine S.val hA (R.pickF rfl rfl) rfl ?_; clear hA a; intro a hA
      refine S.val hA (R.assign rfl) rfl ?_; clear hA a; intro a hA
      refine S.done ?_
      replace hA : St 45 [(4, _)] a := hA.sub ((.cons rfl .nil))
      exact hJ _ _ ⟨hA.sub (.cons (by first | rfl | exact congrArg (fun b => some (Value.bool b)) (by first | exact decide_eq_decide.2 (by omega) | exact or_bool (by omega) | exact and_bool (by omega) | (simp; done) | (simp [hg5]; done) | (have h80 := hg5; (try simp at h80); simp [h80]; done) | exact (decide_eq_false (fun h9 => hg5 h9.1)).symm)) .nil), hM⟩
set_option maxRecDepth 100000 in
set_option maxHeartbeats 400000 in
theorem clone05 (ax : Option Addr) (X : List Int) (cx : Nat) (hX : X.length ≤ 1000) (w : World) (hx : IntSl w (.slice ax X.length cx) X) :
    Calls Tryd.prog 45 #[.slice ax X.length cx] w fun e w' => ∃ a c, e = .returned (.slice a X.length c) ∧ Mem w nof [own 3 1 (.slice a X.length c) X.length (X.map (Value.int .i64))] w' := by
  have hbs := Below.refl (B := w.heap.size) w
  have hM := Mem.start w
  refine Calls.of_ends (vs := [.slice ax X.length cx]) Tryd.func45 rfl Tryd.ntmps45 rfl ?_
  intro a hA
  replace hA : St 8 [(0, _)] a := hA
  refine Ends.seq ?_
  refine Ends.region ?_
  refine S.val hA (R.assign rfl) rfl ?_; clear hA a; intro a hA
  refine S.done ?_
  replace hA : St 8 [(0, _)] a := hA.sub ((.cons rfl .nil))
  refine Ends.seq ?_
  refine Ends.seq ?_
  refine Ends.region ?_
  refine S.val hA (R.move rfl) rfl ?_; clear hA a; intro a hA
  refine S.val hA (R.eqlNilS Tryd.underlying22 rfl rfl) rfl ?_; clear hA a; intro a hA
  refine S.done ?_
  replace hA : St 8 [(0, _), (4, _)] a := hA.sub ((.cons rfl (.cons rfl .nil)))
  refine Ends.iteB hA rfl (fun hc1 => ?_) (fun hc1 => ?_)
  ·
    refine Ends.seq ?_
    refine Ends.region ?_
    refine S.val hA (R.assign rfl) rfl ?_; clear hA a; intro a hA
    refine S.done ?_
    replace hA : St 8 [(0, _), (2, _)] a := hA.sub ((.cons rfl (.cons rfl .nil)))
    refine Ends.ret1 Tryd.func45 Tryd.results45 hA rfl ?_
    have hX0 : X = [] := by obtain ⟨a9, c9, he9, h91, h92, h93, h94⟩ := hx; have hc0 := hc1; cases ax with | some p => cases hc0 | none => (cases he9; exact List.length_eq_zero_iff.1 (by have := h93 rfl; omega))
    subst hX0
    exact ⟨none, 0, rfl, hM.ownNil 3 1⟩
  ·
    refine Ends.skip ?_
    refine Ends.seq ?_
    refine Ends.region ?_
    refine S.buildSl0 hA hM Tryd.underlying22 info3 rfl ?_; clear hA hM a; intro b2 w1 hb3 hM a hA
    replace hM := hM.ownPt (cap := 0) (n := 0) (sz := 1) (xs := []) rfl (Nat.zero_le _) (Nat.le_refl _) rfl
    replace hM : Mem _ _ [own 3 1 (.slice ((some ⟨b2, 0, none⟩)) 0 0) 0 ((([] : List Int)).map (Value.int .i64))] _ := hM
    refine S.val hA (R.move rfl) rfl ?_; clear hA a; intro a hA
    refine S.appendI (k := 0) hA hM rfl (hx.mem hM) Tryd.underlying22 info3 rfl rfl rfl rfl rfl rfl (by first | (unfold maxLen; omega) | (show (0 + _) * 8 ≤ (140737488355328 : Nat); omega)) (by first | (unfold maxLen; omega) | (show (0 + _) * 8 ≤ (140737488355328 : Nat); omega)) rfl ?_; clear hA hM a; intro a4 c5 w2 hM a hA
    have hl6 : 0 + X.length = X.length := by first | (simp; done) | simp only [List.length_append]
    rw [hl6, show (([] : List Int)).map (Value.int .i64) ++ X.map (Value.int .i64) = X.map (Value.int .i64) by simp] at hM; rw [hl6] at hA; clear hl6
    replace hM : Mem _ _ [own 3 1 (.slice a4 X.length c5) X.length (X.map (Value.int .i64))] _ := hM
    refine S.val hA (R.assign rfl) rfl ?_; clear hA a; intro a hA
    refine S.done ?_
    replace hA : St 8 [(2, _)] a := hA.sub ((.cons rfl .nil))
    refine Ends.ret1 Tryd.func45 Tryd.results45 hA rfl ?_
    exact ⟨_, _, rfl, hM⟩
theorem rowmem {R : List (List Int)} {k : Nat} (h : k < R.length) : R.getD k [] ∈ R := by rw [List.getD_eq_getElem?_getD, List.getElem?_eq_getElem h]; exact List.getElem_mem h
set_option maxRecDepth 100000 in
set_option maxHeartbeats 400000 in
theorem icopy05 (i : Ins) (ax3 : Option Addr) (cx3 : Nat) (ax4 : Option Addr) (cx4 : Nat) (ax5 : Option Addr) (cx5 : Nat) (hsm : smallI i) (w : World) (hx3 : IntSl w (.slice ax3 i.wt.length cx3) i.wt) (hx4 : IntSl w (.slice ax4 i.vl.length cx4) i.vl) (hx5 : RowsV w (.slice ax5 i.cost.length cx5) i.cost) :
    Calls Tryd.prog 25 #[.agg #[.int .i64 i.kind, .int .i64 i.n, .int .i64 i.cap, .slice ax3 i.wt.length cx3, .slice ax4 i.vl.length cx4, .slice ax5 i.cost.length cx5]] w fun e w' => ∃ aw cw av cv ac cc rs, e = .returned (insA i aw cw av cv ac cc rs) ∧ rs.map (·.Y) = i.cost ∧ Mem w nof [bundle (insL 3 22 i aw cw av cv ac cc rs)] w' := by
  have hbs := Below.refl (B := w.heap.size) w
  have hl5 := hx5.lenB
  have hs1 := hsm.1
  have hs2 := hsm.2.1
  have hs3 := hsm.2.2.1
  have hM := Mem.start w
  refine Calls.of_ends (vs := [.agg #[.int .i64 i.kind, .int .i64 i.n, .int .i64 i.cap, .slice ax3 i.wt.length cx3, .slice ax4 i.vl.length cx4, .slice ax5 i.cost.length cx5]]) Tryd.func25 rfl Tryd.ntmps25 rfl ?_
  intro a hA
  replace hA : St 30 [(0, _)] a := hA
  refine Ends.seq ?_
  refine Ends.region ?_
  refine S.box hA hM rfl rfl ?_; clear hA hM a; intro b1 w1 hb2 hM a hA
  replace hM : Mem _ _ [pt b1 #[.int .i64 i.kind, .int .i64 i.n, .int .i64 i.cap, .slice ax3 i.wt.length cx3, .slice ax4 i.vl.length cx4, .slice ax5 i.cost.length cx5] 25] _ := hM
  refine S.alloc hA hM info25 rfl rfl ?_; clear hA hM a; intro b3 w2 hb4 hM a hA
  replace hM : Mem _ _ [pt b3 #[.int .i64 0, .int .i64 0, .int .i64 0, .slice none 0 0, .slice none 0 0, .slice none 0 0] 25, pt b1 #[.int .i64 i.kind, .int .i64 i.n, .int .i64 i.cap, .slice ax3 i.wt.length cx3, .slice ax4 i.vl.length cx4, .slice ax5 i.cost.length cx5] 25] _ := hM
  refine S.done ?_
  replace hA : St 30 [(1, _), (2, _)] a := hA.sub ((.cons rfl (.cons rfl .nil)))
  refine Ends.seq ?_
  refine Ends.drawn (Mem w nof [pt b3 #[.int .i64 0, .int .i64 0, .int .i64 0, .slice none 0 0, .slice none 0 0, .slice none 0 0] 25, pt b1 #[.int .i64 i.kind, .int .i64 i.n, .int .i64 i.cap, .slice ax3 i.wt.length cx3, .slice ax4 i.vl.length cx4, .slice ax5 i.cost.length cx5] 25]) (.cons (0, true) (.cons (1, true) (.cons (3, true) (.cons (4, true) (.cons (2, false) (.cons (6, true) (.cons (5, false) (.cons (7, false) (.cons (8, true) (.cons (9, false) .nil)))))))))) 7 mixed (by kernel_rfl) (by kernel_rfl) (by kernel_rfl) hM.drew ?_
  replace hM := hM.drew
  refine D.valF hA rfl (fun _ => R.fieldAddr (q := 3) fi25_3 rfl rfl rfl) rfl ?_; clear hA a; intro a hA
  refine D.val hA rfl (by kernel_rfl) (fun _ hM => R.load sz22 rfl (hM.cell (k := 1) rfl rfl)) rfl ?_; clear hA a; intro a hA
  refine D.valF hA rfl (fun _ => R.fieldAddr (q := 4) fi25_4 rfl rfl rfl) rfl ?_; clear hA a; intro a hA
  refine D.val hA rfl (by kernel_rfl) (fun _ hM => R.load sz22 rfl (hM.cell (k := 1) rfl rfl)) rfl ?_; clear hA a; intro a hA
  refine D.call hA rfl (R.callF Tryd.func45 rfl rfl rfl) rfl (clone05 ax3 i.wt cx3 (by omega) _ (hx3.mem hM)) ?_; clear hA a
  rintro e w3 ⟨ka5, kc6, rfl, hn⟩
  replace hM : Mem _ _ [own 3 1 (.slice ka5 i.wt.length kc6) i.wt.length (i.wt.map (Value.int .i64)), pt b3 #[.int .i64 0, .int .i64 0, .int .i64 0, .slice none 0 0, .slice none 0 0, .slice none 0 0] 25, pt b1 #[.int .i64 i.kind, .int .i64 i.n, .int .i64 i.cap, .slice ax3 i.wt.length cx3, .slice ax4 i.vl.length cx4, .slice ax5 i.cost.length cx5] 25] _ := hM.call hn; clear hn
  refine ⟨.slice ka5 i.wt.length kc6, rfl, (hM.drop 0), fun a hA => ?_⟩
  refine D.valF hA rfl (fun _ => R.fieldAddr (q := 3) fi25_3 rfl rfl rfl) rfl ?_; clear hA a; intro a hA
  refine D.call hA rfl (R.callF Tryd.func45 rfl rfl rfl) rfl (clone05 ax4 i.vl cx4 (by omega) _ (hx4.mem hM)) ?_; clear hA a
  rintro e w4 ⟨ka7, kc8, rfl, hn⟩
  replace hM : Mem _ _ [own 3 1 (.slice ka7 i.vl.length kc8) i.vl.length (i.vl.map (Value.int .i64)), own 3 1 (.slice ka5 i.wt.length kc6) i.wt.length (i.wt.map (Value.int .i64)), pt b3 #[.int .i64 0, .int .i64 0, .int .i64 0, .slice none 0 0, .slice none 0 0, .slice none 0 0] 25, pt b1 #[.int .i64 i.kind, .int .i64 i.n, .int .i64 i.cap, .slice ax3 i.wt.length cx3, .slice ax4 i.vl.length cx4, .slice ax5 i.cost.length cx5] 25] _ := hM.call hn; clear hn
  refine ⟨.slice ka7 i.vl.length kc8, rfl, ((hM.drop 1).drop 0), fun a hA => ?_⟩
  refine D.store (k := 3) hA hM rfl sz22 rfl rfl rfl rfl rfl ?_; clear hM
  intro w5 hM; refine ⟨fun _ hne => absurd rfl hne, ?_⟩
  replace hM : Mem _ _ [own 3 1 (.slice ka7 i.vl.length kc8) i.vl.length (i.vl.map (Value.int .i64)), own 3 1 (.slice ka5 i.wt.length kc6) i.wt.length (i.wt.map (Value.int .i64)), pt b3 #[.int .i64 0, .int .i64 0, .int .i64 0, .slice none 0 0, .slice none 0 0, .slice none 0 0] 25, pt b1 #[.int .i64 i.kind, .int .i64 i.n, .int .i64 i.cap, .slice ka5 i.wt.length kc6, .slice ax4 i.vl.length cx4, .slice ax5 i.cost.length cx5] 25] _ := hM
  refine D.valF hA rfl (fun _ => R.fieldAddr (q := 4) fi25_4 rfl rfl rfl) rfl ?_; clear hA a; intro a hA
  refine D.store (k := 3) hA hM rfl sz22 rfl rfl rfl rfl rfl ?_; clear hM
  intro w6 hM; refine ⟨fun hb0 => absurd hb0 (by decide), ?_⟩
  replace hM : Mem _ _ [own 3 1 (.slice ka7 i.vl.length kc8) i.vl.length (i.vl.map (Value.int .i64)), own 3 1 (.slice ka5 i.wt.length kc6) i.wt.length (i.wt.map (Value.int .i64)), pt b3 #[.int .i64 0, .int .i64 0, .int .i64 0, .slice none 0 0, .slice none 0 0, .slice none 0 0] 25, pt b1 #[.int .i64 i.kind, .int .i64 i.n, .int .i64 i.cap, .slice ka5 i.wt.length kc6, .slice ka7 i.vl.length kc8, .slice ax5 i.cost.length cx5] 25] _ := hM
  refine D.done ?_
  replace hA : St 30 [(1, _), (2, _)] a := hA.sub ((.cons rfl (.cons rfl .nil)))
  refine Ends.seq ?_
  refine Ends.region ?_
  refine S.val hA (R.assign rfl) rfl ?_; clear hA a; intro a hA
  refine S.done ?_
  replace hA : St 30 [(1, _), (2, _), (3, _)] a := hA.sub ((.cons rfl (.cons rfl (.cons rfl .nil))))
  refine Ends.seq ?_
  refine Ends.seq ?_
  refine Ends.region ?_
  refine S.val hA (R.fieldAddr (q := 5) fi25_5 rfl rfl rfl) rfl ?_; clear hA a; intro a hA
  refine S.val hA (R.load sz23 rfl (hM.cell (k := 3) rfl rfl)) rfl ?_; clear hA a; intro a hA
  refine S.val hA (R.lenS Tryd.underlying23 rfl rfl) rfl ?_; clear hA a; intro a hA
  refine S.val hA (R.move rfl) rfl ?_; clear hA a; intro a hA
  refine S.done ?_
  replace hA : St 30 [(1, _), (2, _), (3, _), (15, _), (16, _), (17, _)] a := hA.sub ((.cons rfl (.cons rfl (.cons rfl (.cons rfl (.cons rfl (.cons rfl .nil)))))))
  refine Ends.block ?_
  replace hM := (hM.bundleNil (e := 3)).ownNil 22 1
  replace hM := hM.front (k := 4) rfl
  replace hM := hM.front (k := 2) rfl
  replace hM := hM.front (k := 2) rfl
  replace hM := hM.front (k := 3) rfl
  replace hM := hM.front (k := 4) rfl
  replace hM := hM.front (k := 5) rfl
  replace hM : Mem _ _ [pt b1 #[.int .i64 i.kind, .int .i64 i.n, .int .i64 i.cap, .slice ka5 i.wt.length kc6, .slice ka7 i.vl.length kc8, .slice ax5 i.cost.length cx5] 25, own 3 1 (.slice ka5 i.wt.length kc6) i.wt.length (i.wt.map (Value.int .i64)), own 3 1 (.slice ka7 i.vl.length kc8) i.vl.length (i.vl.map (Value.int .i64)), own 22 1 (.slice none (([] : List OwR).length) 0) (([] : List OwR).length) ((([] : List OwR).map orV)), bundle (([] : List OwR).map (orC 3)), pt b3 #[.int .i64 0, .int .i64 0, .int .i64 0, .slice none 0 0, .slice none 0 0, .slice none 0 0] 25] _ := hM
  refine Ends.loop (σ := Nat × Option Addr × Nat × List OwR) (fun (k, ao, co, rs) (a : Act) (wv : World) => St 30 [(1, .pointer (some ⟨b1, 0, none⟩)), (2, .pointer (some ⟨b3, 0, none⟩)), (3, .slice ao rs.length co), (15, .slice ax5 i.cost.length cx5), (16, .int .i64 ((i.cost.length : Int))), (17, .int .i64 ((k : Int)))] a ∧ Mem w nof [pt b1 #[.int .i64 i.kind, .int .i64 i.n, .int .i64 i.cap, .slice ka5 i.wt.length kc6, .slice ka7 i.vl.length kc8, .slice ax5 i.cost.length cx5] 25, own 3 1 (.slice ka5 i.wt.length kc6) i.wt.length (i.wt.map (Value.int .i64)), own 3 1 (.slice ka7 i.vl.length kc8) i.vl.length (i.vl.map (Value.int .i64)), own 22 1 (.slice ao rs.length co) rs.length ((rs.map orV)), bundle (rs.map (orC 3)), pt b3 #[.int .i64 0, .int .i64 0, .int .i64 0, .slice none 0 0, .slice none 0 0, .slice none 0 0] 25] wv ∧ (k ≤ i.cost.length) ∧ (rs.map (·.Y) = i.cost.take k)) (fun (k, ao, co, rs) => i.cost.length - k) ((0, none, 0, [])) ⟨hA.sub ((.cons rfl (.cons rfl (.cons rfl (.cons rfl (.cons rfl (.cons rfl .nil))))))), hM, (Nat.zero_le _), rfl⟩ ?_
  clear hA hM a
  rintro ⟨k, ao, co, rs⟩ a w7 ⟨hA, hM, hk, hY⟩ hNext
  refine Ends.seq ?_
  refine Ends.region ?_
  refine S.val hA (R.lss rfl rfl) rfl ?_; clear hA a; intro a hA
  refine S.done ?_
  replace hA : St 30 [(1, _), (2, _), (3, _), (15, _), (16, _), (17, _), (18, _)] a := hA.sub ((.cons rfl (.cons rfl (.cons rfl (.cons rfl (.cons rfl (.cons rfl (.cons rfl .nil))))))))
  refine Ends.seq ?_
  refine Ends.ite hA rfl (fun hc9 => ?_) (fun hc9 => ?_)
  ·
    have hlr : rs.length = k := by have := congrArg List.length hY; simpa [List.length_take, Nat.min_eq_left hk] using this
    have hrow := hsm.2.2.2 _ (rowmem (show k < i.cost.length by omega))
    refine Ends.skip ?_
    refine Ends.seq ?_
    refine Ends.block ?_
    refine Ends.seq ?_
    refine Ends.region ?_
    refine S.val hA (R.idxR hx5 (j := k) sl23 rfl rfl (by omega) (rfl)) rfl ?_; clear hA a; intro a hA
    obtain ⟨ra10, rc11, hrow12, hld13⟩ := hx5.atP (i := k) (by omega)
    refine S.val hA (hld13 _ _ _ _ _ _ hM sz22 rfl) rfl ?_; clear hA a; intro a hA
    refine S.val hA (R.assign rfl) rfl ?_; clear hA a; intro a hA
    refine S.done ?_
    replace hA : St 30 [(1, _), (2, _), (3, _), (5, _), (15, _), (16, _), (17, _)] a := hA.sub ((.cons rfl (.cons rfl (.cons rfl (.cons rfl (.cons rfl (.cons rfl (.cons rfl .nil))))))))
    refine Ends.region ?_
    refine S.val hA (R.move rfl) rfl ?_; clear hA a; intro a hA
    refine S.val hA (R.move rfl) rfl ?_; clear hA a; intro a hA
    refine S.call hA (R.callF Tryd.func45 rfl rfl rfl) rfl (clone05 ra10 ((i.cost.getD k [])) rc11 (by omega) _ (hrow12.mem hM)) ?_; clear hA a
    rintro e w8 ⟨ka14, kc15, rfl, hn⟩
    replace hM : Mem _ _ [own 3 1 (.slice ka14 (((i.cost.getD k [])).length) kc15) (((i.cost.getD k [])).length) (((i.cost.getD k [])).map (Value.int .i64)), pt b1 #[.int .i64 i.kind, .int .i64 i.n, .int .i64 i.cap, .slice ka5 i.wt.length kc6, .slice ka7 i.vl.length kc8, .slice ax5 i.cost.length cx5] 25, own 3 1 (.slice ka5 i.wt.length kc6) i.wt.length (i.wt.map (Value.int .i64)), own 3 1 (.slice ka7 i.vl.length kc8) i.vl.length (i.vl.map (Value.int .i64)), own 22 1 (.slice ao rs.length co) rs.length ((rs.map orV)), bundle (rs.map (orC 3)), pt b3 #[.int .i64 0, .int .i64 0, .int .i64 0, .slice none 0 0, .slice none 0 0, .slice none 0 0] 25] _ := hM.call hn; clear hn
    refine ⟨.slice ka14 (((i.cost.getD k [])).length) kc15, rfl, fun a hA => ?_⟩
    refine S.buildSl (cells := #[.slice ka14 (((i.cost.getD k [])).length) kc15]) hA hM Tryd.underlying23 info22 rfl rfl rfl rfl (by kernel_rfl) rfl ?_; clear hA hM a; intro b16 w9 hb17 hM a hA
    replace hM : Mem _ _ [pt b16 #[.slice ka14 (((i.cost.getD k [])).length) kc15] 22, own 3 1 (.slice ka14 (((i.cost.getD k [])).length) kc15) (((i.cost.getD k [])).length) (((i.cost.getD k [])).map (Value.int .i64)), pt b1 #[.int .i64 i.kind, .int .i64 i.n, .int .i64 i.cap, .slice ka5 i.wt.length kc6, .slice ka7 i.vl.length kc8, .slice ax5 i.cost.length cx5] 25, own 3 1 (.slice ka5 i.wt.length kc6) i.wt.length (i.wt.map (Value.int .i64)), own 3 1 (.slice ka7 i.vl.length kc8) i.vl.length (i.vl.map (Value.int .i64)), own 22 1 (.slice ao rs.length co) rs.length ((rs.map orV)), bundle (rs.map (orC 3)), pt b3 #[.int .i64 0, .int .i64 0, .int .i64 0, .slice none 0 0, .slice none 0 0, .slice none 0 0] 25] _ := hM
    refine S.append (k := 5) (k2 := 0) hA hM rfl rfl Tryd.underlying23 info22 rfl rfl rfl rfl rfl rfl rfl rfl rfl (by first | omega | (show (_ + 1) * 24 ≤ (140737488355328 : Nat); omega) | (unfold maxLen; omega)) (by first | omega | (show (_ + 1) * 24 ≤ (140737488355328 : Nat); omega) | (unfold maxLen; omega)) rfl ?_; clear hA hM a; intro a18 c19 w10 hM a hA
    replace hM : Mem _ _ [pt b16 #[.slice ka14 (((i.cost.getD k [])).length) kc15] 22, own 3 1 (.slice ka14 (((i.cost.getD k [])).length) kc15) (((i.cost.getD k [])).length) (((i.cost.getD k [])).map (Value.int .i64)), pt b1 #[.int .i64 i.kind, .int .i64 i.n, .int .i64 i.cap, .slice ka5 i.wt.length kc6, .slice ka7 i.vl.length kc8, .slice ax5 i.cost.length cx5] 25, own 3 1 (.slice ka5 i.wt.length kc6) i.wt.length (i.wt.map (Value.int .i64)), own 3 1 (.slice ka7 i.vl.length kc8) i.vl.length (i.vl.map (Value.int .i64)), own 22 1 (.slice a18 (rs.length + 1) c19) (rs.length + 1) (((rs.map orV) ++ [.slice ka14 (((i.cost.getD k [])).length) kc15])), bundle (rs.map (orC 3)), pt b3 #[.int .i64 0, .int .i64 0, .int .i64 0, .slice none 0 0, .slice none 0 0, .slice none 0 0] 25] _ := hM
    replace hM := hM.drop 0
    replace hM : Mem _ _ [own 3 1 (.slice ka14 (((i.cost.getD k [])).length) kc15) (((i.cost.getD k [])).length) (((i.cost.getD k [])).map (Value.int .i64)), pt b1 #[.int .i64 i.kind, .int .i64 i.n, .int .i64 i.cap, .slice ka5 i.wt.length kc6, .slice ka7 i.vl.length kc8, .slice ax5 i.cost.length cx5] 25, own 3 1 (.slice ka5 i.wt.length kc6) i.wt.length (i.wt.map (Value.int .i64)), own 3 1 (.slice ka7 i.vl.length kc8) i.vl.length (i.vl.map (Value.int .i64)), own 22 1 (.slice a18 (rs.length + 1) c19) (rs.length + 1) (((rs.map orV) ++ [.slice ka14 (((i.cost.getD k [])).length) kc15])), bundle (rs.map (orC 3)), pt b3 #[.int .i64 0, .int .i64 0, .int .i64 0, .slice none 0 0, .slice none 0 0, .slice none 0 0] 25] _ := hM
    refine S.val hA (R.assign rfl) rfl ?_; clear hA a; intro a hA
    refine S.done ?_
    replace hA : St 30 [(1, _), (2, _), (3, _), (15, _), (16, _), (17, _)] a := hA.sub ((.cons rfl (.cons rfl (.cons rfl (.cons rfl (.cons rfl (.cons rfl .nil)))))))
    refine Ends.inBlock ?_
    refine Ends.region ?_
    refine S.val hA (R.addI rfl rfl (r := ((k : Int)) + 1) rfl (by omega)) rfl ?_; clear hA a; intro a hA
    refine S.val hA (R.move rfl) rfl ?_; clear hA a; intro a hA
    refine S.done ?_
    replace hA : St 30 [(1, _), (2, _), (3, _), (15, _), (16, _), (17, _)] a := hA.sub ((.cons rfl (.cons rfl (.cons rfl (.cons rfl (.cons rfl (.cons rfl .nil)))))))
    rw [show (Value.slice ka14 ((i.cost.getD k [])).length kc15) = orV (⟨(i.cost.getD k []), ka14, kc15⟩ : OwR) from rfl, orV_snoc', len_snoc' rs (⟨(i.cost.getD k []), ka14, kc15⟩ : OwR)] at hM
    rw [len_snoc' rs (⟨(i.cost.getD k []), ka14, kc15⟩ : OwR)] at hA
    replace hM := hM.front (k := 5) rfl
    replace hM := hM.front (k := 1) rfl
    replace hM := (hM.ownOrC).bundleSnoc
    replace hM := hM.front (k := 5) rfl
    replace hM := hM.front (k := 1) rfl
    replace hM := hM.front (k := 5) rfl
    replace hM := hM.front (k := 5) rfl
    replace hM := hM.front (k := 5) rfl
    replace hM := hM.front (k := 5) rfl
    replace hM := hM.firstN 6
    exact hNext ((k + 1, a18, c19, rs ++ [(⟨(i.cost.getD k []), ka14, kc15⟩ : OwR)])) _ _ ((by show i.cost.length - (k + 1) < i.cost.length - k; omega)) ⟨hA.sub ((.cons rfl (.cons rfl (.cons rfl (.cons rfl (.cons rfl (.cons rfl .nil))))))), hM, (by omega), (by rw [List.map_append, hY, takeI_snoc (show k < i.cost.length by omega)]; rfl)⟩
  ·
    have hlr : i.cost.take k = i.cost := List.take_of_length_le (by omega)
    refine Ends.exit rfl ?_
    replace hA : St 30 [(1, _), (2, _), (3, _)] a := hA.sub ((.cons rfl (.cons rfl (.cons rfl .nil))))
    refine Ends.seq ?_
    refine Ends.region ?_
    refine S.val hA (R.move rfl) rfl ?_; clear hA a; intro a hA
    refine S.val hA (R.fieldAddr (q := 5) fi25_5 rfl rfl rfl) rfl ?_; clear hA a; intro a hA
    refine S.store (k := 0) hA hM sz23 rfl rfl rfl rfl rfl ?_; clear hM
    intro w11 hM
    replace hM : Mem _ _ [pt b1 #[.int .i64 i.kind, .int .i64 i.n, .int .i64 i.cap, .slice ka5 i.wt.length kc6, .slice ka7 i.vl.length kc8, .slice ao rs.length co] 25, own 3 1 (.slice ka5 i.wt.length kc6) i.wt.length (i.wt.map (Value.int .i64)), own 3 1 (.slice ka7 i.vl.length kc8) i.vl.length (i.vl.map (Value.int .i64)), own 22 1 (.slice ao rs.length co) rs.length ((rs.map orV)), bundle (rs.map (orC 3)), pt b3 #[.int .i64 0, .int .i64 0, .int .i64 0, .slice none 0 0, .slice none 0 0, .slice none 0 0] 25] _ := hM
    refine S.done ?_
    replace hA : St 30 [(1, _), (2, _)] a := hA.sub ((.cons rfl (.cons rfl .nil)))
    refine Ends.seq ?_
    refine Ends.region ?_
    refine S.val hA (R.loadA sz25 rfl (hM.range (k := 0) rfl) rfl) rfl ?_; clear hA a; intro a hA
    refine S.storeA (k := 5) hA hM sz25 rfl rfl rfl rfl rfl rfl ?_; clear hM
    intro w12 hM
    replace hM : Mem _ _ [pt b1 #[.int .i64 i.kind, .int .i64 i.n, .int .i64 i.cap, .slice ka5 i.wt.length kc6, .slice ka7 i.vl.length kc8, .slice ao rs.length co] 25, own 3 1 (.slice ka5 i.wt.length kc6) i.wt.length (i.wt.map (Value.int .i64)), own 3 1 (.slice ka7 i.vl.length kc8) i.vl.length (i.vl.map (Value.int .i64)), own 22 1 (.slice ao rs.length co) rs.length ((rs.map orV)), bundle (rs.map (orC 3)), pt b3 #[.int .i64 i.kind, .int .i64 i.n, .int .i64 i.cap, .slice ka5 i.wt.length kc6, .slice ka7 i.vl.length kc8, .slice ao rs.length co] 25] _ := hM
    refine S.done ?_
    replace hA : St 30 [(2, _)] a := hA.sub ((.cons rfl .nil))
    refine Ends.retC (k := 5) Tryd.func25 Tryd.results25 hA hM rfl rfl sz25 rfl ?_
    replace hM := hM.front (k := 4) rfl
    replace hM := hM.front (k := 4) rfl
    replace hM := hM.front (k := 4) rfl
    replace hM := hM.front (k := 4) rfl
    replace hM := hM.firstN 4
    exact ⟨ka5, kc6, ka7, kc8, ao, co, rs, rfl, by rw [hY, hlr], Mem.pack (cs := insL 3 22 i ka5 kc6 ka7 kc8 ao co rs) (L := []) hM⟩
end Go.Proofs.YtakfcekfmdjklaaDoor
