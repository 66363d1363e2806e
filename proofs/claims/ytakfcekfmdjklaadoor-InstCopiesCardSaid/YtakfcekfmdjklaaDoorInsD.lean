/-
  kurganref05.Copy: a problem cut, in lists of its own.
-/
import Derived.Test.YtakfcekfmdjklaaDoorInsC
namespace Go.Proofs.YtakfcekfmdjklaaDoor
open Go.RowKit
theorem take_min70 (X : List Int) : X.take (min (X.length : Int) 70).toNat = X.take 70 := by
  by_cases h : X.length ≤ 70
  · rw [List.take_of_length_le h, List.take_of_length_le (by omega)]
  · rw [show (min (X.length : Int) 70).toNat = 70 by omega]
theorem takeR_snoc {R : List (List Int)} {k : Nat} (h : k < R.length) (f : List Int → List Int) : (R.take (k + 1)).map f = (R.take k).map f ++ [f (R.getD k [])] := by
  rw [List.take_succ_eq_append_getElem h, List.map_append, List.getD_eq_getElem?_getD, List.getElem?_eq_getElem h]; rfl
set_option maxRecDepth 100000 in
set_option maxHeartbeats 400000 in
theorem cut05 (ax : Option Addr) (X : List Int) (cx : Nat) (w : World) (hx : IntSl w (.slice ax X.length cx) X) :
    Calls Tryd.prog 36 #[.slice ax X.length cx] w fun e w' => ∃ a c, e = .returned (.slice a (X.take 70).length c) ∧ Mem w nof [own 3 1 (.slice a (((X.take 70)).length) c) (((X.take 70)).length) (((X.take 70)).map (Value.int .i64))] w' := by
  have hbs := Below.refl (B := w.heap.size) w
  have hM := Mem.start w
  refine Calls.of_ends (vs := [.slice ax X.length cx]) Tryd.func36 rfl Tryd.ntmps36 rfl ?_
  intro a hA
  replace hA : St 10 [(0, _)] a := hA
  refine Ends.seq ?_
  refine Ends.region ?_
  refine S.val hA (R.assign rfl) rfl ?_; clear hA a; intro a hA
  refine S.done ?_
  replace hA : St 10 [(0, _)] a := hA.sub ((.cons rfl .nil))
  refine Ends.seq ?_
  refine Ends.region ?_
  refine S.buildSl0 hA hM Tryd.underlying22 info3 rfl ?_; clear hA hM a; intro b1 w1 hb2 hM a hA
  replace hM := hM.ownPt (cap := 0) (n := 0) (sz := 1) (xs := []) rfl (Nat.zero_le _) (Nat.le_refl _) rfl
  replace hM : Mem _ _ [own 3 1 (.slice ((some ⟨b1, 0, none⟩)) 0 0) 0 ((([] : List Int)).map (Value.int .i64))] _ := hM
  refine S.val hA (R.move rfl) rfl ?_; clear hA a; intro a hA
  refine S.val hA (R.move rfl) rfl ?_; clear hA a; intro a hA
  refine S.val hA (R.lenS Tryd.underlying22 rfl rfl) rfl ?_; clear hA a; intro a hA
  refine S.val hA (R.min rfl rfl) rfl ?_; clear hA a; intro a hA
  have hsl3 := hx.cutR ((min ((X.length : Int)) 70).toNat) (by omega)
  refine S.val hA (R.sliceHI (h := (min ((X.length : Int)) 70).toNat) hx Tryd.underlying22 info3 rfl rfl (by omega) (by omega)) rfl ?_; clear hA a; intro a hA
  refine S.appendI (k := 0) hA hM rfl (hsl3.mem hM) Tryd.underlying22 info3 rfl rfl rfl rfl rfl rfl (by first | (rw [take_min70, List.length_take]; unfold maxLen; omega) | (rw [take_min70, List.length_take]; show (0 + _) * 8 ≤ (140737488355328 : Nat); omega) | omega | (show (_ + 1) * 24 ≤ (140737488355328 : Nat); omega) | (unfold maxLen; omega)) (by first | (rw [take_min70, List.length_take]; unfold maxLen; omega) | (rw [take_min70, List.length_take]; show (0 + _) * 8 ≤ (140737488355328 : Nat); omega) | omega | (show (_ + 1) * 24 ≤ (140737488355328 : Nat); omega) | (unfold maxLen; omega)) rfl ?_; clear hA hM a; intro a4 c5 w2 hM a hA
  have hl6 : 0 + ((X.take ((min ((X.length : Int)) 70).toNat))).length = (((X.take ((min ((X.length : Int)) 70).toNat)))).length := by first | (simp; done) | simp only [List.length_append]
  rw [hl6, show (([] : List Int)).map (Value.int .i64) ++ ((X.take ((min ((X.length : Int)) 70).toNat))).map (Value.int .i64) = (((X.take ((min ((X.length : Int)) 70).toNat)))).map (Value.int .i64) by simp] at hM; rw [hl6] at hA; clear hl6
  replace hM : Mem _ _ [own 3 1 (.slice a4 ((((X.take ((min ((X.length : Int)) 70).toNat)))).length) c5) ((((X.take ((min ((X.length : Int)) 70).toNat)))).length) ((((X.take ((min ((X.length : Int)) 70).toNat)))).map (Value.int .i64))] _ := hM
  refine S.val hA (R.assign rfl) rfl ?_; clear hA a; intro a hA
  refine S.done ?_
  replace hA : St 10 [(2, _)] a := hA.sub ((.cons rfl .nil))
  refine Ends.ret1 Tryd.func36 Tryd.results36 hA rfl ?_
  rw [take_min70] at hM
  exact ⟨_, _, by rw [take_min70], hM⟩
set_option maxRecDepth 100000 in
set_option maxHeartbeats 400000 in
theorem copy05_own (i : Ins) (ax3 : Option Addr) (cx3 : Nat) (ax4 : Option Addr) (cx4 : Nat) (ax5 : Option Addr) (cx5 : Nat) (w : World) (hx3 : IntSl w (.slice ax3 i.wt.length cx3) i.wt) (hx4 : IntSl w (.slice ax4 i.vl.length cx4) i.vl) (hx5 : RowsV w (.slice ax5 i.cost.length cx5) i.cost) :
    Calls Tryd.prog 16 #[.agg #[.int .i64 i.kind, .int .i64 i.n, .int .i64 i.cap, .slice ax3 i.wt.length cx3, .slice ax4 i.vl.length cx4, .slice ax5 i.cost.length cx5]] w fun e w' => ∃ aw cw av cv ac cc rs, e = .returned (insA (cutI i) aw cw av cv ac cc rs) ∧ rs.map (·.Y) = (cutI i).cost ∧ Mem w nof [bundle (insL 3 22 (cutI i) aw cw av cv ac cc rs)] w' := by
  have hbs := Below.refl (B := w.heap.size) w
  have hl5 := hx5.lenB
  have hM := Mem.start w
  refine Calls.of_ends (vs := [.agg #[.int .i64 i.kind, .int .i64 i.n, .int .i64 i.cap, .slice ax3 i.wt.length cx3, .slice ax4 i.vl.length cx4, .slice ax5 i.cost.length cx5]]) Tryd.func16 rfl Tryd.ntmps16 rfl ?_
  intro a hA
  replace hA : St 41 [(0, _)] a := hA
  refine Ends.seq ?_
  refine Ends.region ?_
  refine S.box hA hM rfl rfl ?_; clear hA hM a; intro b1 w1 hb2 hM a hA
  replace hM : Mem _ _ [pt b1 #[.int .i64 i.kind, .int .i64 i.n, .int .i64 i.cap, .slice ax3 i.wt.length cx3, .slice ax4 i.vl.length cx4, .slice ax5 i.cost.length cx5] 25] _ := hM
  refine S.alloc hA hM info25 rfl rfl ?_; clear hA hM a; intro b3 w2 hb4 hM a hA
  replace hM : Mem _ _ [pt b3 #[.int .i64 0, .int .i64 0, .int .i64 0, .slice none 0 0, .slice none 0 0, .slice none 0 0] 25, pt b1 #[.int .i64 i.kind, .int .i64 i.n, .int .i64 i.cap, .slice ax3 i.wt.length cx3, .slice ax4 i.vl.length cx4, .slice ax5 i.cost.length cx5] 25] _ := hM
  refine S.done ?_
  replace hA : St 41 [(1, _), (2, _)] a := hA.sub ((.cons rfl (.cons rfl .nil)))
  refine Ends.seq ?_
  refine Ends.drawn (Mem w nof [pt b3 #[.int .i64 0, .int .i64 0, .int .i64 0, .slice none 0 0, .slice none 0 0, .slice none 0 0] 25, pt b1 #[.int .i64 i.kind, .int .i64 i.n, .int .i64 i.cap, .slice ax3 i.wt.length cx3, .slice ax4 i.vl.length cx4, .slice ax5 i.cost.length cx5] 25]) (.cons (0, true) (.cons (1, true) (.cons (2, true) (.cons (3, true) (.cons (4, true) (.cons (5, true) (.cons (6, true) (.cons (7, true) (.cons (9, true) (.cons (10, true) (.fork 8 13 (.fork 11 13 (.cons (12, true) (.cons (13, false) (.cons (14, false) .nil))) (.cons (11, false) (.cons (12, true) (.cons (14, false) .nil)))) (.cons (8, false) (.cons (11, false) (.cons (12, true) (.cons (14, false) .nil))))))))))))))) 14 mixed (by kernel_rfl) (by kernel_rfl) (by kernel_rfl) hM.drew ?_
  replace hM := hM.drew
  refine D.valF hA rfl (fun _ => R.fieldAddr (q := 0) fi25_0 rfl rfl rfl) rfl ?_; clear hA a; intro a hA
  refine D.val hA rfl (by kernel_rfl) (fun _ hM => R.load sz3 rfl (hM.cell (k := 1) rfl rfl)) rfl ?_; clear hA a; intro a hA
  refine D.valF hA rfl (fun _ => R.fieldAddr (q := 1) fi25_1 rfl rfl rfl) rfl ?_; clear hA a; intro a hA
  refine D.val hA rfl (by kernel_rfl) (fun _ hM => R.load sz3 rfl (hM.cell (k := 1) rfl rfl)) rfl ?_; clear hA a; intro a hA
  refine D.valF hA rfl (fun _ => R.fieldAddr (q := 2) fi25_2 rfl rfl rfl) rfl ?_; clear hA a; intro a hA
  refine D.val hA rfl (by kernel_rfl) (fun _ hM => R.load sz3 rfl (hM.cell (k := 1) rfl rfl)) rfl ?_; clear hA a; intro a hA
  refine D.valF hA rfl (fun _ => R.fieldAddr (q := 3) fi25_3 rfl rfl rfl) rfl ?_; clear hA a; intro a hA
  refine D.val hA rfl (by kernel_rfl) (fun _ hM => R.load sz22 rfl (hM.cell (k := 1) rfl rfl)) rfl ?_; clear hA a; intro a hA
  refine D.valF hA rfl (fun _ => R.fieldAddr (q := 4) fi25_4 rfl rfl rfl) rfl ?_; clear hA a; intro a hA
  refine D.val hA rfl (by kernel_rfl) (fun _ hM => R.load sz22 rfl (hM.cell (k := 1) rfl rfl)) rfl ?_; clear hA a; intro a hA
  refine D.fork rfl rfl ?_ ?_
  ·
    refine D.call hA rfl (R.callF Tryd.func36 rfl rfl rfl) rfl (cut05 ax3 i.wt cx3 _ (hx3.mem hM)) ?_; clear hA a
    rintro e w3 ⟨ka5, kc6, rfl, hn⟩
    replace hM : Mem _ _ [own 3 1 (.slice ka5 (((i.wt.take 70)).length) kc6) (((i.wt.take 70)).length) (((i.wt.take 70)).map (Value.int .i64)), pt b3 #[.int .i64 0, .int .i64 0, .int .i64 0, .slice none 0 0, .slice none 0 0, .slice none 0 0] 25, pt b1 #[.int .i64 i.kind, .int .i64 i.n, .int .i64 i.cap, .slice ax3 i.wt.length cx3, .slice ax4 i.vl.length cx4, .slice ax5 i.cost.length cx5] 25] _ := hM.call hn; clear hn
    refine ⟨.slice ka5 ((i.wt.take 70).length) kc6, rfl, (hM.drop 0), fun a hA => ?_⟩
    refine D.fork rfl rfl ?_ ?_
    ·
      refine D.call hA rfl (R.callF Tryd.func36 rfl rfl rfl) rfl (cut05 ax4 i.vl cx4 _ (hx4.mem hM)) ?_; clear hA a
      rintro e w4 ⟨ka7, kc8, rfl, hn⟩
      replace hM : Mem _ _ [own 3 1 (.slice ka7 (((i.vl.take 70)).length) kc8) (((i.vl.take 70)).length) (((i.vl.take 70)).map (Value.int .i64)), own 3 1 (.slice ka5 (((i.wt.take 70)).length) kc6) (((i.wt.take 70)).length) (((i.wt.take 70)).map (Value.int .i64)), pt b3 #[.int .i64 0, .int .i64 0, .int .i64 0, .slice none 0 0, .slice none 0 0, .slice none 0 0] 25, pt b1 #[.int .i64 i.kind, .int .i64 i.n, .int .i64 i.cap, .slice ax3 i.wt.length cx3, .slice ax4 i.vl.length cx4, .slice ax5 i.cost.length cx5] 25] _ := hM.call hn; clear hn
      refine ⟨.slice ka7 ((i.vl.take 70).length) kc8, rfl, ((hM.drop 1).drop 0), fun a hA => ?_⟩
      refine D.valF hA rfl (fun _ => R.build (cells := #[.int .i64 i.kind, .int .i64 i.n, .int .i64 i.cap, .slice ka5 ((i.wt.take 70).length) kc6, .slice ka7 ((i.vl.take 70).length) kc8, .slice none 0 0]) rfl (by kernel_rfl)) rfl ?_; clear hA a; intro a hA
      refine D.alloc hA hM rfl info25 rfl rfl ?_; clear hA hM a; intro b9 w5 hb10 hM; refine ⟨(fun hM => ((hM.drop 1).drop 0)) hM.tail, fun a hA => ?_⟩
      replace hM : Mem _ _ [pt b9 #[.int .i64 0, .int .i64 0, .int .i64 0, .slice none 0 0, .slice none 0 0, .slice none 0 0] 25, own 3 1 (.slice ka7 (((i.vl.take 70)).length) kc8) (((i.vl.take 70)).length) (((i.vl.take 70)).map (Value.int .i64)), own 3 1 (.slice ka5 (((i.wt.take 70)).length) kc6) (((i.wt.take 70)).length) (((i.wt.take 70)).map (Value.int .i64)), pt b3 #[.int .i64 0, .int .i64 0, .int .i64 0, .slice none 0 0, .slice none 0 0, .slice none 0 0] 25, pt b1 #[.int .i64 i.kind, .int .i64 i.n, .int .i64 i.cap, .slice ax3 i.wt.length cx3, .slice ax4 i.vl.length cx4, .slice ax5 i.cost.length cx5] 25] _ := hM
      refine D.storeA (k := 0) hA hM rfl sz25 rfl rfl rfl rfl rfl rfl ?_; clear hM
      intro w6 hM; refine ⟨fun _ hne => absurd rfl hne, ?_⟩
      replace hM : Mem _ _ [pt b9 #[.int .i64 i.kind, .int .i64 i.n, .int .i64 i.cap, .slice ka5 ((i.wt.take 70).length) kc6, .slice ka7 ((i.vl.take 70).length) kc8, .slice none 0 0] 25, own 3 1 (.slice ka7 (((i.vl.take 70)).length) kc8) (((i.vl.take 70)).length) (((i.vl.take 70)).map (Value.int .i64)), own 3 1 (.slice ka5 (((i.wt.take 70)).length) kc6) (((i.wt.take 70)).length) (((i.wt.take 70)).map (Value.int .i64)), pt b3 #[.int .i64 0, .int .i64 0, .int .i64 0, .slice none 0 0, .slice none 0 0, .slice none 0 0] 25, pt b1 #[.int .i64 i.kind, .int .i64 i.n, .int .i64 i.cap, .slice ax3 i.wt.length cx3, .slice ax4 i.vl.length cx4, .slice ax5 i.cost.length cx5] 25] _ := hM
      refine D.done ?_
      replace hA : St 41 [(1, _), (2, _), (3, _)] a := hA.sub ((.cons rfl (.cons rfl (.cons rfl .nil))))
      refine Ends.seq ?_
      refine Ends.seq ?_
      refine Ends.region ?_
      refine S.val hA (R.assign rfl) rfl ?_; clear hA a; intro a hA
      refine S.done ?_
      replace hA : St 41 [(1, _), (2, _), (3, _), (4, _)] a := hA.sub ((.cons rfl (.cons rfl (.cons rfl (.cons rfl .nil)))))
      refine Ends.block ?_
      replace hM := (hM.bundleNil (e := 3)).ownNil 22 1
      replace hM := hM.front (k := 6) rfl
      replace hM := hM.front (k := 6) rfl
      replace hM := hM.front (k := 3) rfl
      replace hM := hM.front (k := 3) rfl
      replace hM := hM.front (k := 5) rfl
      replace hM := hM.front (k := 6) rfl
      replace hM := hM.front (k := 6) rfl
      replace hM : Mem _ _ [pt b9 #[.int .i64 i.kind, .int .i64 i.n, .int .i64 i.cap, .slice ka5 ((i.wt.take 70).length) kc6, .slice ka7 ((i.vl.take 70).length) kc8, .slice none (([] : List OwR).length) 0] 25, own 3 1 (.slice ka5 (((i.wt.take 70)).length) kc6) (((i.wt.take 70)).length) (((i.wt.take 70)).map (Value.int .i64)), own 3 1 (.slice ka7 (((i.vl.take 70)).length) kc8) (((i.vl.take 70)).length) (((i.vl.take 70)).map (Value.int .i64)), own 22 1 (.slice none (([] : List OwR).length) 0) (([] : List OwR).length) ((([] : List OwR).map orV)), bundle (([] : List OwR).map (orC 3)), pt b3 #[.int .i64 0, .int .i64 0, .int .i64 0, .slice none 0 0, .slice none 0 0, .slice none 0 0] 25, pt b1 #[.int .i64 i.kind, .int .i64 i.n, .int .i64 i.cap, .slice ax3 i.wt.length cx3, .slice ax4 i.vl.length cx4, .slice ax5 i.cost.length cx5] 25] _ := hM
      refine Ends.loop (σ := Nat × Option Addr × Nat × List OwR) (fun (k, ao, co, rs) (a : Act) (wv : World) => St 41 [(1, .pointer (some ⟨b1, 0, none⟩)), (2, .pointer (some ⟨b3, 0, none⟩)), (3, .pointer (some ⟨b9, 0, none⟩)), (4, .int .i64 ((k : Int)))] a ∧ Mem w nof [pt b9 #[.int .i64 i.kind, .int .i64 i.n, .int .i64 i.cap, .slice ka5 ((i.wt.take 70).length) kc6, .slice ka7 ((i.vl.take 70).length) kc8, .slice ao rs.length co] 25, own 3 1 (.slice ka5 (((i.wt.take 70)).length) kc6) (((i.wt.take 70)).length) (((i.wt.take 70)).map (Value.int .i64)), own 3 1 (.slice ka7 (((i.vl.take 70)).length) kc8) (((i.vl.take 70)).length) (((i.vl.take 70)).map (Value.int .i64)), own 22 1 (.slice ao rs.length co) rs.length ((rs.map orV)), bundle (rs.map (orC 3)), pt b3 #[.int .i64 0, .int .i64 0, .int .i64 0, .slice none 0 0, .slice none 0 0, .slice none 0 0] 25, pt b1 #[.int .i64 i.kind, .int .i64 i.n, .int .i64 i.cap, .slice ax3 i.wt.length cx3, .slice ax4 i.vl.length cx4, .slice ax5 i.cost.length cx5] 25] wv ∧ (k ≤ i.cost.length ∧ k ≤ 30) ∧ (rs.map (·.Y) = (i.cost.take k).map (fun r => r.take 70))) (fun (k, ao, co, rs) => 30 - k) ((0, none, 0, [])) ⟨hA.sub ((.cons rfl (.cons rfl (.cons rfl (.cons rfl .nil))))), hM, (by omega), rfl⟩ ?_
      clear hA hM a
      rintro ⟨k, ao, co, rs⟩ a w7 ⟨hA, hM, hk, hY⟩ hNext
      refine Ends.seq ?_
      refine Ends.seq ?_
      refine Ends.cut (fun (a : Act) (wv : World) => St 41 [(1, .pointer (some ⟨b1, 0, none⟩)), (2, .pointer (some ⟨b3, 0, none⟩)), (3, .pointer (some ⟨b9, 0, none⟩)), (4, .int .i64 ((k : Int))), (26, .bool (decide ((((k : Int)) < ((i.cost.length : Int)) ∧ ((k : Int)) < 30))))] a ∧ Mem w nof [pt b9 #[.int .i64 i.kind, .int .i64 i.n, .int .i64 i.cap, .slice ka5 ((i.wt.take 70).length) kc6, .slice ka7 ((i.vl.take 70).length) kc8, .slice ao rs.length co] 25, own 3 1 (.slice ka5 (((i.wt.take 70)).length) kc6) (((i.wt.take 70)).length) (((i.wt.take 70)).map (Value.int .i64)), own 3 1 (.slice ka7 (((i.vl.take 70)).length) kc8) (((i.vl.take 70)).length) (((i.vl.take 70)).map (Value.int .i64)), own 22 1 (.slice ao rs.length co) rs.length ((rs.map orV)), bundle (rs.map (orC 3)), pt b3 #[.int .i64 0, .int .i64 0, .int .i64 0, .slice none 0 0, .slice none 0 0, .slice none 0 0] 25, pt b1 #[.int .i64 i.kind, .int .i64 i.n, .int .i64 i.cap, .slice ax3 i.wt.length cx3, .slice ax4 i.vl.length cx4, .slice ax5 i.cost.length cx5] 25] wv) ?_ (fun k2 hJ => ?_)
      · clear hA hM a; rintro a w8 ⟨hA, hM⟩
        refine Ends.ite hA rfl (fun hc11 => ?_) (fun hc11 => ?_)
        ·
          have hlr : rs.length = k := by have := congrArg List.length hY; simpa [List.length_take, Nat.min_eq_left hk.1] using this
          refine Ends.skip ?_
          refine Ends.seq ?_
          refine Ends.block ?_
          refine Ends.drawn (Mem w nof [pt b9 #[.int .i64 i.kind, .int .i64 i.n, .int .i64 i.cap, .slice ka5 ((i.wt.take 70).length) kc6, .slice ka7 ((i.vl.take 70).length) kc8, .slice ao rs.length co] 25, pt b3 #[.int .i64 0, .int .i64 0, .int .i64 0, .slice none 0 0, .slice none 0 0, .slice none 0 0] 25, pt b1 #[.int .i64 i.kind, .int .i64 i.n, .int .i64 i.cap, .slice ax3 i.wt.length cx3, .slice ax4 i.vl.length cx4, .slice ax5 i.cost.length cx5] 25]) (.cons (0, true) (.cons (1, true) (.cons (2, true) (.cons (3, true) (.cons (4, true) (.cons (5, true) (.cons (6, true) (.cons (7, false) (.cons (8, false) (.cons (9, false) (.cons (10, true) (.cons (11, false) .nil)))))))))))) 11 mixed (by kernel_rfl) (by kernel_rfl) (by kernel_rfl) ((((hM.drop 4).drop 3).drop 2).drop 1).drew ?_
          replace hM := hM.drew
          refine D.valF hA rfl (fun _ => R.fieldAddr (q := 5) fi25_5 rfl rfl rfl) rfl ?_; clear hA a; intro a hA
          refine D.val hA rfl (by kernel_rfl) (fun _ hM => R.load sz23 rfl (hM.cell (k := 0) rfl rfl)) rfl ?_; clear hA a; intro a hA
          refine D.valF hA rfl (fun _ => R.fieldAddr (q := 5) fi25_5 rfl rfl rfl) rfl ?_; clear hA a; intro a hA
          refine D.val hA rfl (by kernel_rfl) (fun _ hM => R.load sz23 rfl (hM.cell (k := 2) rfl rfl)) rfl ?_; clear hA a; intro a hA
          refine D.valF hA rfl (fun _ => R.move rfl) rfl ?_; clear hA a; intro a hA
          refine D.valF hA rfl (fun _ => R.idxR hx5 (j := k) sl23 rfl rfl (by omega) (rfl)) rfl ?_; clear hA a; intro a hA
          obtain ⟨ra12, rc13, hrow14, hld15⟩ := hx5.atP (i := k) (by omega)
          refine D.val hA rfl (by kernel_rfl) (fun _ hM => hld15 _ _ _ _ _ _ hM sz22 rfl) rfl ?_; clear hA a; intro a hA
          refine D.call hA rfl (R.callF Tryd.func36 rfl rfl rfl) rfl (cut05 ra12 ((i.cost.getD k [])) rc13 _ (hrow14.mem hM)) ?_; clear hA a
          rintro e w9 ⟨ka16, kc17, rfl, hn⟩
          replace hM : Mem _ _ [own 3 1 (.slice ka16 (((((i.cost.getD k [])).take 70)).length) kc17) (((((i.cost.getD k [])).take 70)).length) (((((i.cost.getD k [])).take 70)).map (Value.int .i64)), pt b9 #[.int .i64 i.kind, .int .i64 i.n, .int .i64 i.cap, .slice ka5 ((i.wt.take 70).length) kc6, .slice ka7 ((i.vl.take 70).length) kc8, .slice ao rs.length co] 25, own 3 1 (.slice ka5 (((i.wt.take 70)).length) kc6) (((i.wt.take 70)).length) (((i.wt.take 70)).map (Value.int .i64)), own 3 1 (.slice ka7 (((i.vl.take 70)).length) kc8) (((i.vl.take 70)).length) (((i.vl.take 70)).map (Value.int .i64)), own 22 1 (.slice ao rs.length co) rs.length ((rs.map orV)), bundle (rs.map (orC 3)), pt b3 #[.int .i64 0, .int .i64 0, .int .i64 0, .slice none 0 0, .slice none 0 0, .slice none 0 0] 25, pt b1 #[.int .i64 i.kind, .int .i64 i.n, .int .i64 i.cap, .slice ax3 i.wt.length cx3, .slice ax4 i.vl.length cx4, .slice ax5 i.cost.length cx5] 25] _ := hM.call hn; clear hn
          refine ⟨.slice ka16 ((((i.cost.getD k [])).take 70).length) kc17, rfl, (((((hM.drop 5).drop 4).drop 3).drop 2).drop 0), fun a hA => ?_⟩
          refine D.buildSl (cells := #[.slice ka16 ((((i.cost.getD k [])).take 70).length) kc17]) hA hM rfl Tryd.underlying23 info22 rfl rfl rfl rfl (by kernel_rfl) rfl ?_; clear hA hM a; intro b18 w10 hb19 hM; refine ⟨(fun hM => (((((hM.drop 5).drop 4).drop 3).drop 2).drop 0)) hM.tail, fun a hA => ?_⟩
          replace hM : Mem _ _ [pt b18 #[.slice ka16 ((((i.cost.getD k [])).take 70).length) kc17] 22, own 3 1 (.slice ka16 (((((i.cost.getD k [])).take 70)).length) kc17) (((((i.cost.getD k [])).take 70)).length) (((((i.cost.getD k [])).take 70)).map (Value.int .i64)), pt b9 #[.int .i64 i.kind, .int .i64 i.n, .int .i64 i.cap, .slice ka5 ((i.wt.take 70).length) kc6, .slice ka7 ((i.vl.take 70).length) kc8, .slice ao rs.length co] 25, own 3 1 (.slice ka5 (((i.wt.take 70)).length) kc6) (((i.wt.take 70)).length) (((i.wt.take 70)).map (Value.int .i64)), own 3 1 (.slice ka7 (((i.vl.take 70)).length) kc8) (((i.vl.take 70)).length) (((i.vl.take 70)).map (Value.int .i64)), own 22 1 (.slice ao rs.length co) rs.length ((rs.map orV)), bundle (rs.map (orC 3)), pt b3 #[.int .i64 0, .int .i64 0, .int .i64 0, .slice none 0 0, .slice none 0 0, .slice none 0 0] 25, pt b1 #[.int .i64 i.kind, .int .i64 i.n, .int .i64 i.cap, .slice ax3 i.wt.length cx3, .slice ax4 i.vl.length cx4, .slice ax5 i.cost.length cx5] 25] _ := hM
          refine D.append (k := 5) (k2 := 0) hA hM rfl rfl rfl Tryd.underlying23 info22 rfl rfl rfl rfl rfl rfl rfl rfl rfl (by first | (rw [take_min70, List.length_take]; unfold maxLen; omega) | (rw [take_min70, List.length_take]; show (0 + _) * 8 ≤ (140737488355328 : Nat); omega) | omega | (show (_ + 1) * 24 ≤ (140737488355328 : Nat); omega) | (unfold maxLen; omega)) (by first | (rw [take_min70, List.length_take]; unfold maxLen; omega) | (rw [take_min70, List.length_take]; show (0 + _) * 8 ≤ (140737488355328 : Nat); omega) | omega | (show (_ + 1) * 24 ≤ (140737488355328 : Nat); omega) | (unfold maxLen; omega)) rfl ?_; clear hA hM a; intro a20 c21 w11 hM
          replace hM : Mem _ _ [pt b18 #[.slice ka16 ((((i.cost.getD k [])).take 70).length) kc17] 22, own 3 1 (.slice ka16 (((((i.cost.getD k [])).take 70)).length) kc17) (((((i.cost.getD k [])).take 70)).length) (((((i.cost.getD k [])).take 70)).map (Value.int .i64)), pt b9 #[.int .i64 i.kind, .int .i64 i.n, .int .i64 i.cap, .slice ka5 ((i.wt.take 70).length) kc6, .slice ka7 ((i.vl.take 70).length) kc8, .slice ao rs.length co] 25, own 3 1 (.slice ka5 (((i.wt.take 70)).length) kc6) (((i.wt.take 70)).length) (((i.wt.take 70)).map (Value.int .i64)), own 3 1 (.slice ka7 (((i.vl.take 70)).length) kc8) (((i.vl.take 70)).length) (((i.vl.take 70)).map (Value.int .i64)), own 22 1 (.slice a20 (rs.length + 1) c21) (rs.length + 1) (((rs.map orV) ++ [.slice ka16 ((((i.cost.getD k [])).take 70).length) kc17])), bundle (rs.map (orC 3)), pt b3 #[.int .i64 0, .int .i64 0, .int .i64 0, .slice none 0 0, .slice none 0 0, .slice none 0 0] 25, pt b1 #[.int .i64 i.kind, .int .i64 i.n, .int .i64 i.cap, .slice ax3 i.wt.length cx3, .slice ax4 i.vl.length cx4, .slice ax5 i.cost.length cx5] 25] _ := hM
          replace hM := hM.drop 0
          replace hM : Mem _ _ [own 3 1 (.slice ka16 (((((i.cost.getD k [])).take 70)).length) kc17) (((((i.cost.getD k [])).take 70)).length) (((((i.cost.getD k [])).take 70)).map (Value.int .i64)), pt b9 #[.int .i64 i.kind, .int .i64 i.n, .int .i64 i.cap, .slice ka5 ((i.wt.take 70).length) kc6, .slice ka7 ((i.vl.take 70).length) kc8, .slice ao rs.length co] 25, own 3 1 (.slice ka5 (((i.wt.take 70)).length) kc6) (((i.wt.take 70)).length) (((i.wt.take 70)).map (Value.int .i64)), own 3 1 (.slice ka7 (((i.vl.take 70)).length) kc8) (((i.vl.take 70)).length) (((i.vl.take 70)).map (Value.int .i64)), own 22 1 (.slice a20 (rs.length + 1) c21) (rs.length + 1) (((rs.map orV) ++ [.slice ka16 ((((i.cost.getD k [])).take 70).length) kc17])), bundle (rs.map (orC 3)), pt b3 #[.int .i64 0, .int .i64 0, .int .i64 0, .slice none 0 0, .slice none 0 0, .slice none 0 0] 25, pt b1 #[.int .i64 i.kind, .int .i64 i.n, .int .i64 i.cap, .slice ax3 i.wt.length cx3, .slice ax4 i.vl.length cx4, .slice ax5 i.cost.length cx5] 25] _ := hM
          refine ⟨(((((hM.drop 5).drop 4).drop 3).drop 2).drop 0), fun a hA => ?_⟩
          refine D.valF hA rfl (fun _ => R.fieldAddr (q := 5) fi25_5 rfl rfl rfl) rfl ?_; clear hA a; intro a hA
          refine D.store (k := 1) hA hM rfl sz23 rfl rfl rfl rfl rfl ?_; clear hM
          intro w12 hM; refine ⟨fun _ hne => absurd rfl hne, ?_⟩
          replace hM : Mem _ _ [own 3 1 (.slice ka16 (((((i.cost.getD k [])).take 70)).length) kc17) (((((i.cost.getD k [])).take 70)).length) (((((i.cost.getD k [])).take 70)).map (Value.int .i64)), pt b9 #[.int .i64 i.kind, .int .i64 i.n, .int .i64 i.cap, .slice ka5 ((i.wt.take 70).length) kc6, .slice ka7 ((i.vl.take 70).length) kc8, .slice a20 (rs.length + 1) c21] 25, own 3 1 (.slice ka5 (((i.wt.take 70)).length) kc6) (((i.wt.take 70)).length) (((i.wt.take 70)).map (Value.int .i64)), own 3 1 (.slice ka7 (((i.vl.take 70)).length) kc8) (((i.vl.take 70)).length) (((i.vl.take 70)).map (Value.int .i64)), own 22 1 (.slice a20 (rs.length + 1) c21) (rs.length + 1) (((rs.map orV) ++ [.slice ka16 ((((i.cost.getD k [])).take 70).length) kc17])), bundle (rs.map (orC 3)), pt b3 #[.int .i64 0, .int .i64 0, .int .i64 0, .slice none 0 0, .slice none 0 0, .slice none 0 0] 25, pt b1 #[.int .i64 i.kind, .int .i64 i.n, .int .i64 i.cap, .slice ax3 i.wt.length cx3, .slice ax4 i.vl.length cx4, .slice ax5 i.cost.length cx5] 25] _ := hM
          refine D.done ?_
          replace hA : St 41 [(1, _), (2, _), (3, _), (4, _)] a := hA.sub ((.cons rfl (.cons rfl (.cons rfl (.cons rfl .nil)))))
          refine Ends.inBlock ?_
          refine Ends.region ?_
          refine S.val hA (R.move rfl) rfl ?_; clear hA a; intro a hA
          refine S.val hA (R.addI rfl rfl (r := ((k : Int)) + 1) rfl (by omega)) rfl ?_; clear hA a; intro a hA
          refine S.val hA (R.assign rfl) rfl ?_; clear hA a; intro a hA
          refine S.done ?_
          replace hA : St 41 [(1, _), (2, _), (3, _), (4, _)] a := hA.sub ((.cons rfl (.cons rfl (.cons rfl (.cons rfl .nil)))))
          rw [show (Value.slice ka16 ((((i.cost.getD k [])).take 70)).length kc17) = orV (⟨(((i.cost.getD k [])).take 70), ka16, kc17⟩ : OwR) from rfl, orV_snoc', len_snoc' rs (⟨(((i.cost.getD k [])).take 70), ka16, kc17⟩ : OwR)] at hM
          replace hM := hM.front (k := 5) rfl
          replace hM := hM.front (k := 1) rfl
          replace hM := (hM.ownOrC).bundleSnoc
          replace hM := hM.front (k := 6) rfl
          replace hM := hM.front (k := 6) rfl
          replace hM := hM.front (k := 2) rfl
          replace hM := hM.front (k := 6) rfl
          replace hM := hM.front (k := 6) rfl
          replace hM := hM.front (k := 6) rfl
          replace hM := hM.front (k := 6) rfl
          replace hM := hM.firstN 7
          exact hNext ((k + 1, a20, c21, rs ++ [(⟨(((i.cost.getD k [])).take 70), ka16, kc17⟩ : OwR)])) _ _ ((by show 30 - (k + 1) < 30 - k; omega)) ⟨hA.sub ((.cons rfl (.cons rfl (.cons rfl (.cons rfl .nil))))), hM, (by omega), (by rw [List.map_append, hY, takeR_snoc (show k < i.cost.length by omega)]; rfl)⟩
        ·
          have hlr : (i.cost.take 30).map (fun r => r.take 70) = (i.cost.take k).map (fun r => r.take 70) := by
            by_cases h9 : k = 30
            · rw [h9]
            · rw [List.take_of_length_le (show i.cost.length ≤ 30 by omega), List.take_of_length_le (show i.cost.length ≤ k by omega)]
          refine Ends.exit rfl ?_
          replace hA : St 41 [(2, _), (3, _)] a := hA.sub ((.cons rfl (.cons rfl .nil)))
          refine Ends.seq ?_
          refine Ends.region ?_
          refine S.val hA (R.loadA sz25 rfl (hM.range (k := 0) rfl) rfl) rfl ?_; clear hA a; intro a hA
          refine S.storeA (k := 5) hA hM sz25 rfl rfl rfl rfl rfl rfl ?_; clear hM
          intro w13 hM
          replace hM : Mem _ _ [pt b9 #[.int .i64 i.kind, .int .i64 i.n, .int .i64 i.cap, .slice ka5 ((i.wt.take 70).length) kc6, .slice ka7 ((i.vl.take 70).length) kc8, .slice ao rs.length co] 25, own 3 1 (.slice ka5 (((i.wt.take 70)).length) kc6) (((i.wt.take 70)).length) (((i.wt.take 70)).map (Value.int .i64)), own 3 1 (.slice ka7 (((i.vl.take 70)).length) kc8) (((i.vl.take 70)).length) (((i.vl.take 70)).map (Value.int .i64)), own 22 1 (.slice ao rs.length co) rs.length ((rs.map orV)), bundle (rs.map (orC 3)), pt b3 #[.int .i64 i.kind, .int .i64 i.n, .int .i64 i.cap, .slice ka5 ((i.wt.take 70).length) kc6, .slice ka7 ((i.vl.take 70).length) kc8, .slice ao rs.length co] 25, pt b1 #[.int .i64 i.kind, .int .i64 i.n, .int .i64 i.cap, .slice ax3 i.wt.length cx3, .slice ax4 i.vl.length cx4, .slice ax5 i.cost.length cx5] 25] _ := hM
          refine S.done ?_
          replace hA : St 41 [(2, _)] a := hA.sub ((.cons rfl .nil))
          refine Ends.retC (k := 5) Tryd.func16 Tryd.results16 hA hM rfl rfl sz25 rfl ?_
          replace hM := hM.front (k := 4) rfl
          replace hM := hM.front (k := 4) rfl
          replace hM := hM.front (k := 4) rfl
          replace hM := hM.front (k := 4) rfl
          replace hM := hM.firstN 4
          exact ⟨ka5, kc6, ka7, kc8, ao, co, rs, rfl, by rw [hY, ← hlr]; rfl, Mem.pack (cs := insL 3 22 (cutI i) ka5 kc6 ka7 kc8 ao co rs) (L := []) hM⟩
      ·
        refine Ends.region ?_
        refine S.val hA (R.move rfl) rfl ?_; clear hA a; intro a hA
        refine S.val hA (R.fieldAddr (q := 5) fi25_5 rfl rfl rfl) rfl ?_; clear hA a; intro a hA
        refine S.val hA (R.load sz23 rfl (hM.cell (k := 6) rfl rfl)) rfl ?_; clear hA a; intro a hA
        refine S.val hA (R.lenS Tryd.underlying23 rfl rfl) rfl ?_; clear hA a; intro a hA
        refine S.val hA (R.lss rfl rfl) rfl ?_; clear hA a; intro a hA
        refine S.val hA (R.move rfl) rfl ?_; clear hA a; intro a hA
        refine hA.split (d := 23) rfl ?_ ?_
        · clear hA; intro hg22 hA
          refine S.valg (dj := 23) hA (by kernel_rfl) rfl (R.move rfl) rfl ?_; clear hA a; intro a hA
          refine S.valg (dj := 23) hA (by kernel_rfl) rfl (R.lss rfl rfl) rfl ?_; clear hA a; intro a hA
          refine S.val hA (R.pickT rfl rfl) rfl ?_; clear hA a; intro a hA
          refine S.done ?_
          replace hA : St 41 [(1, _), (2, _), (3, _), (4, _), (26, _)] a := hA.sub ((.cons rfl (.cons rfl (.cons rfl (.cons rfl (.cons rfl .nil))))))
          exact hJ _ _ ⟨hA.sub (.cons rfl (.cons rfl (.cons rfl (.cons rfl (.cons (by first | rfl | exact congrArg (fun b => some (Value.bool b)) (by first | exact decide_eq_decide.2 (by omega) | exact or_bool (by omega) | exact and_bool (by omega) | (simp; done) | (simp [hg22]; done) | (have h80 := hg22; (try simp at h80); simp [h80]; done) | exact (decide_eq_false (fun h9 => hg22 h9.1)).symm)) .nil))))), hM⟩
        · clear hA; intro hg22 hA
          refine S.no (dj := 23) hA (by kernel_rfl) rfl rfl rfl ?_; clear hA a; intro a hA
          refine S.no (dj := 23) hA (by kernel_rfl) rfl rfl rfl ?_; clear hA a; intro a hA
          refine S.val hA (R.pickF rfl rfl) rfl ?_; clear hA a; intro a hA
          refine S.done ?_
          replace hA : St 41 [(1, _), (2, _), (3, _), (4, _), (26, _)] a := hA.sub ((.cons rfl (.cons rfl (.cons rfl (.cons rfl (.cons rfl .nil))))))
          exact hJ _ _ ⟨hA.sub (.cons rfl (.cons rfl (.cons rfl (.cons rfl (.cons (by first | rfl | exact congrArg (fun b => some (Value.bool b)) (by first | exact decide_eq_decide.2 (by omega) | exact or_bool (by omega) | exact and_bool (by omega) | (simp; done) | (simp [hg22]; done) | (have h80 := hg22; (try simp at h80); simp [h80]; done) | exact (decide_eq_false (fun h9 => hg22 h9.1)).symm)) .nil))))), hM⟩
    ·
      refine D.alloc hA hM rfl info25 rfl rfl ?_; clear hA hM a; intro b23 w14 hb24 hM; refine ⟨(fun hM => (hM.drop 0)) hM.tail, fun a hA => ?_⟩
      replace hM : Mem _ _ [pt b23 #[.int .i64 0, .int .i64 0, .int .i64 0, .slice none 0 0, .slice none 0 0, .slice none 0 0] 25, own 3 1 (.slice ka5 (((i.wt.take 70)).length) kc6) (((i.wt.take 70)).length) (((i.wt.take 70)).map (Value.int .i64)), pt b3 #[.int .i64 0, .int .i64 0, .int .i64 0, .slice none 0 0, .slice none 0 0, .slice none 0 0] 25, pt b1 #[.int .i64 i.kind, .int .i64 i.n, .int .i64 i.cap, .slice ax3 i.wt.length cx3, .slice ax4 i.vl.length cx4, .slice ax5 i.cost.length cx5] 25] _ := hM
      refine D.call hA rfl (R.callF Tryd.func36 rfl rfl rfl) rfl (cut05 ax4 i.vl cx4 _ (hx4.mem hM)) ?_; clear hA a
      rintro e w15 ⟨ka25, kc26, rfl, hn⟩
      replace hM : Mem _ _ [own 3 1 (.slice ka25 (((i.vl.take 70)).length) kc26) (((i.vl.take 70)).length) (((i.vl.take 70)).map (Value.int .i64)), pt b23 #[.int .i64 0, .int .i64 0, .int .i64 0, .slice none 0 0, .slice none 0 0, .slice none 0 0] 25, own 3 1 (.slice ka5 (((i.wt.take 70)).length) kc6) (((i.wt.take 70)).length) (((i.wt.take 70)).map (Value.int .i64)), pt b3 #[.int .i64 0, .int .i64 0, .int .i64 0, .slice none 0 0, .slice none 0 0, .slice none 0 0] 25, pt b1 #[.int .i64 i.kind, .int .i64 i.n, .int .i64 i.cap, .slice ax3 i.wt.length cx3, .slice ax4 i.vl.length cx4, .slice ax5 i.cost.length cx5] 25] _ := hM.call hn; clear hn
      refine ⟨.slice ka25 ((i.vl.take 70).length) kc26, rfl, (((hM.drop 2).drop 1).drop 0), fun a hA => ?_⟩
      refine D.valF hA rfl (fun _ => R.build (cells := #[.int .i64 i.kind, .int .i64 i.n, .int .i64 i.cap, .slice ka5 ((i.wt.take 70).length) kc6, .slice ka25 ((i.vl.take 70).length) kc26, .slice none 0 0]) rfl (by kernel_rfl)) rfl ?_; clear hA a; intro a hA
      refine D.storeA (k := 1) hA hM rfl sz25 rfl rfl rfl rfl rfl rfl ?_; clear hM
      intro w16 hM; refine ⟨fun _ hne => absurd rfl hne, ?_⟩
      replace hM : Mem _ _ [own 3 1 (.slice ka25 (((i.vl.take 70)).length) kc26) (((i.vl.take 70)).length) (((i.vl.take 70)).map (Value.int .i64)), pt b23 #[.int .i64 i.kind, .int .i64 i.n, .int .i64 i.cap, .slice ka5 ((i.wt.take 70).length) kc6, .slice ka25 ((i.vl.take 70).length) kc26, .slice none 0 0] 25, own 3 1 (.slice ka5 (((i.wt.take 70)).length) kc6) (((i.wt.take 70)).length) (((i.wt.take 70)).map (Value.int .i64)), pt b3 #[.int .i64 0, .int .i64 0, .int .i64 0, .slice none 0 0, .slice none 0 0, .slice none 0 0] 25, pt b1 #[.int .i64 i.kind, .int .i64 i.n, .int .i64 i.cap, .slice ax3 i.wt.length cx3, .slice ax4 i.vl.length cx4, .slice ax5 i.cost.length cx5] 25] _ := hM
      refine D.done ?_
      replace hA : St 41 [(1, _), (2, _), (3, _)] a := hA.sub ((.cons rfl (.cons rfl (.cons rfl .nil))))
      refine Ends.seq ?_
      refine Ends.seq ?_
      refine Ends.region ?_
      refine S.val hA (R.assign rfl) rfl ?_; clear hA a; intro a hA
      refine S.done ?_
      replace hA : St 41 [(1, _), (2, _), (3, _), (4, _)] a := hA.sub ((.cons rfl (.cons rfl (.cons rfl (.cons rfl .nil)))))
      refine Ends.block ?_
      replace hM := (hM.bundleNil (e := 3)).ownNil 22 1
      replace hM := hM.front (k := 6) rfl
      replace hM := hM.front (k := 6) rfl
      replace hM := hM.front (k := 3) rfl
      replace hM := hM.front (k := 3) rfl
      replace hM := hM.front (k := 4) rfl
      replace hM := hM.front (k := 6) rfl
      replace hM := hM.front (k := 6) rfl
      replace hM : Mem _ _ [pt b23 #[.int .i64 i.kind, .int .i64 i.n, .int .i64 i.cap, .slice ka5 ((i.wt.take 70).length) kc6, .slice ka25 ((i.vl.take 70).length) kc26, .slice none (([] : List OwR).length) 0] 25, own 3 1 (.slice ka5 (((i.wt.take 70)).length) kc6) (((i.wt.take 70)).length) (((i.wt.take 70)).map (Value.int .i64)), own 3 1 (.slice ka25 (((i.vl.take 70)).length) kc26) (((i.vl.take 70)).length) (((i.vl.take 70)).map (Value.int .i64)), own 22 1 (.slice none (([] : List OwR).length) 0) (([] : List OwR).length) ((([] : List OwR).map orV)), bundle (([] : List OwR).map (orC 3)), pt b3 #[.int .i64 0, .int .i64 0, .int .i64 0, .slice none 0 0, .slice none 0 0, .slice none 0 0] 25, pt b1 #[.int .i64 i.kind, .int .i64 i.n, .int .i64 i.cap, .slice ax3 i.wt.length cx3, .slice ax4 i.vl.length cx4, .slice ax5 i.cost.length cx5] 25] _ := hM
      refine Ends.loop (σ := Nat × Option Addr × Nat × List OwR) (fun (k, ao, co, rs) (a : Act) (wv : World) => St 41 [(1, .pointer (some ⟨b1, 0, none⟩)), (2, .pointer (some ⟨b3, 0, none⟩)), (3, .pointer (some ⟨b23, 0, none⟩)), (4, .int .i64 ((k : Int)))] a ∧ Mem w nof [pt b23 #[.int .i64 i.kind, .int .i64 i.n, .int .i64 i.cap, .slice ka5 ((i.wt.take 70).length) kc6, .slice ka25 ((i.vl.take 70).length) kc26, .slice ao rs.length co] 25, own 3 1 (.slice ka5 (((i.wt.take 70)).length) kc6) (((i.wt.take 70)).length) (((i.wt.take 70)).map (Value.int .i64)), own 3 1 (.slice ka25 (((i.vl.take 70)).length) kc26) (((i.vl.take 70)).length) (((i.vl.take 70)).map (Value.int .i64)), own 22 1 (.slice ao rs.length co) rs.length ((rs.map orV)), bundle (rs.map (orC 3)), pt b3 #[.int .i64 0, .int .i64 0, .int .i64 0, .slice none 0 0, .slice none 0 0, .slice none 0 0] 25, pt b1 #[.int .i64 i.kind, .int .i64 i.n, .int .i64 i.cap, .slice ax3 i.wt.length cx3, .slice ax4 i.vl.length cx4, .slice ax5 i.cost.length cx5] 25] wv ∧ (k ≤ i.cost.length ∧ k ≤ 30) ∧ (rs.map (·.Y) = (i.cost.take k).map (fun r => r.take 70))) (fun (k, ao, co, rs) => 30 - k) ((0, none, 0, [])) ⟨hA.sub ((.cons rfl (.cons rfl (.cons rfl (.cons rfl .nil))))), hM, (by omega), rfl⟩ ?_
      clear hA hM a
      rintro ⟨k, ao, co, rs⟩ a w17 ⟨hA, hM, hk, hY⟩ hNext
      refine Ends.seq ?_
      refine Ends.seq ?_
      refine Ends.cut (fun (a : Act) (wv : World) => St 41 [(1, .pointer (some ⟨b1, 0, none⟩)), (2, .pointer (some ⟨b3, 0, none⟩)), (3, .pointer (some ⟨b23, 0, none⟩)), (4, .int .i64 ((k : Int))), (26, .bool (decide ((((k : Int)) < ((i.cost.length : Int)) ∧ ((k : Int)) < 30))))] a ∧ Mem w nof [pt b23 #[.int .i64 i.kind, .int .i64 i.n, .int .i64 i.cap, .slice ka5 ((i.wt.take 70).length) kc6, .slice ka25 ((i.vl.take 70).length) kc26, .slice ao rs.length co] 25, own 3 1 (.slice ka5 (((i.wt.take 70)).length) kc6) (((i.wt.take 70)).length) (((i.wt.take 70)).map (Value.int .i64)), own 3 1 (.slice ka25 (((i.vl.take 70)).length) kc26) (((i.vl.take 70)).length) (((i.vl.take 70)).map (Value.int .i64)), own 22 1 (.slice ao rs.length co) rs.length ((rs.map orV)), bundle (rs.map (orC 3)), pt b3 #[.int .i64 0, .int .i64 0, .int .i64 0, .slice none 0 0, .slice none 0 0, .slice none 0 0] 25, pt b1 #[.int .i64 i.kind, .int .i64 i.n, .int .i64 i.cap, .slice ax3 i.wt.length cx3, .slice ax4 i.vl.length cx4, .slice ax5 i.cost.length cx5] 25] wv) ?_ (fun k2 hJ => ?_)
      · clear hA hM a; rintro a w18 ⟨hA, hM⟩
        refine Ends.ite hA rfl (fun hc27 => ?_) (fun hc27 => ?_)
        ·
          have hlr : rs.length = k := by have := congrArg List.length hY; simpa [List.length_take, Nat.min_eq_left hk.1] using this
          refine Ends.skip ?_
          refine Ends.seq ?_
          refine Ends.block ?_
          refine Ends.drawn (Mem w nof [pt b23 #[.int .i64 i.kind, .int .i64 i.n, .int .i64 i.cap, .slice ka5 ((i.wt.take 70).length) kc6, .slice ka25 ((i.vl.take 70).length) kc26, .slice ao rs.length co] 25, pt b3 #[.int .i64 0, .int .i64 0, .int .i64 0, .slice none 0 0, .slice none 0 0, .slice none 0 0] 25, pt b1 #[.int .i64 i.kind, .int .i64 i.n, .int .i64 i.cap, .slice ax3 i.wt.length cx3, .slice ax4 i.vl.length cx4, .slice ax5 i.cost.length cx5] 25]) (.cons (0, true) (.cons (1, true) (.cons (2, true) (.cons (3, true) (.cons (4, true) (.cons (5, true) (.cons (6, true) (.cons (7, false) (.cons (8, false) (.cons (9, false) (.cons (10, true) (.cons (11, false) .nil)))))))))))) 11 mixed (by kernel_rfl) (by kernel_rfl) (by kernel_rfl) ((((hM.drop 4).drop 3).drop 2).drop 1).drew ?_
          replace hM := hM.drew
          refine D.valF hA rfl (fun _ => R.fieldAddr (q := 5) fi25_5 rfl rfl rfl) rfl ?_; clear hA a; intro a hA
          refine D.val hA rfl (by kernel_rfl) (fun _ hM => R.load sz23 rfl (hM.cell (k := 0) rfl rfl)) rfl ?_; clear hA a; intro a hA
          refine D.valF hA rfl (fun _ => R.fieldAddr (q := 5) fi25_5 rfl rfl rfl) rfl ?_; clear hA a; intro a hA
          refine D.val hA rfl (by kernel_rfl) (fun _ hM => R.load sz23 rfl (hM.cell (k := 2) rfl rfl)) rfl ?_; clear hA a; intro a hA
          refine D.valF hA rfl (fun _ => R.move rfl) rfl ?_; clear hA a; intro a hA
          refine D.valF hA rfl (fun _ => R.idxR hx5 (j := k) sl23 rfl rfl (by omega) (rfl)) rfl ?_; clear hA a; intro a hA
          obtain ⟨ra28, rc29, hrow30, hld31⟩ := hx5.atP (i := k) (by omega)
          refine D.val hA rfl (by kernel_rfl) (fun _ hM => hld31 _ _ _ _ _ _ hM sz22 rfl) rfl ?_; clear hA a; intro a hA
          refine D.call hA rfl (R.callF Tryd.func36 rfl rfl rfl) rfl (cut05 ra28 ((i.cost.getD k [])) rc29 _ (hrow30.mem hM)) ?_; clear hA a
          rintro e w19 ⟨ka32, kc33, rfl, hn⟩
          replace hM : Mem _ _ [own 3 1 (.slice ka32 (((((i.cost.getD k [])).take 70)).length) kc33) (((((i.cost.getD k [])).take 70)).length) (((((i.cost.getD k [])).take 70)).map (Value.int .i64)), pt b23 #[.int .i64 i.kind, .int .i64 i.n, .int .i64 i.cap, .slice ka5 ((i.wt.take 70).length) kc6, .slice ka25 ((i.vl.take 70).length) kc26, .slice ao rs.length co] 25, own 3 1 (.slice ka5 (((i.wt.take 70)).length) kc6) (((i.wt.take 70)).length) (((i.wt.take 70)).map (Value.int .i64)), own 3 1 (.slice ka25 (((i.vl.take 70)).length) kc26) (((i.vl.take 70)).length) (((i.vl.take 70)).map (Value.int .i64)), own 22 1 (.slice ao rs.length co) rs.length ((rs.map orV)), bundle (rs.map (orC 3)), pt b3 #[.int .i64 0, .int .i64 0, .int .i64 0, .slice none 0 0, .slice none 0 0, .slice none 0 0] 25, pt b1 #[.int .i64 i.kind, .int .i64 i.n, .int .i64 i.cap, .slice ax3 i.wt.length cx3, .slice ax4 i.vl.length cx4, .slice ax5 i.cost.length cx5] 25] _ := hM.call hn; clear hn
          refine ⟨.slice ka32 ((((i.cost.getD k [])).take 70).length) kc33, rfl, (((((hM.drop 5).drop 4).drop 3).drop 2).drop 0), fun a hA => ?_⟩
          refine D.buildSl (cells := #[.slice ka32 ((((i.cost.getD k [])).take 70).length) kc33]) hA hM rfl Tryd.underlying23 info22 rfl rfl rfl rfl (by kernel_rfl) rfl ?_; clear hA hM a; intro b34 w20 hb35 hM; refine ⟨(fun hM => (((((hM.drop 5).drop 4).drop 3).drop 2).drop 0)) hM.tail, fun a hA => ?_⟩
          replace hM : Mem _ _ [pt b34 #[.slice ka32 ((((i.cost.getD k [])).take 70).length) kc33] 22, own 3 1 (.slice ka32 (((((i.cost.getD k [])).take 70)).length) kc33) (((((i.cost.getD k [])).take 70)).length) (((((i.cost.getD k [])).take 70)).map (Value.int .i64)), pt b23 #[.int .i64 i.kind, .int .i64 i.n, .int .i64 i.cap, .slice ka5 ((i.wt.take 70).length) kc6, .slice ka25 ((i.vl.take 70).length) kc26, .slice ao rs.length co] 25, own 3 1 (.slice ka5 (((i.wt.take 70)).length) kc6) (((i.wt.take 70)).length) (((i.wt.take 70)).map (Value.int .i64)), own 3 1 (.slice ka25 (((i.vl.take 70)).length) kc26) (((i.vl.take 70)).length) (((i.vl.take 70)).map (Value.int .i64)), own 22 1 (.slice ao rs.length co) rs.length ((rs.map orV)), bundle (rs.map (orC 3)), pt b3 #[.int .i64 0, .int .i64 0, .int .i64 0, .slice none 0 0, .slice none 0 0, .slice none 0 0] 25, pt b1 #[.int .i64 i.kind, .int .i64 i.n, .int .i64 i.cap, .slice ax3 i.wt.length cx3, .slice ax4 i.vl.length cx4, .slice ax5 i.cost.length cx5] 25] _ := hM
          refine D.append (k := 5) (k2 := 0) hA hM rfl rfl rfl Tryd.underlying23 info22 rfl rfl rfl rfl rfl rfl rfl rfl rfl (by first | (rw [take_min70, List.length_take]; unfold maxLen; omega) | (rw [take_min70, List.length_take]; show (0 + _) * 8 ≤ (140737488355328 : Nat); omega) | omega | (show (_ + 1) * 24 ≤ (140737488355328 : Nat); omega) | (unfold maxLen; omega)) (by first | (rw [take_min70, List.length_take]; unfold maxLen; omega) | (rw [take_min70, List.length_take]; show (0 + _) * 8 ≤ (140737488355328 : Nat); omega) | omega | (show (_ + 1) * 24 ≤ (140737488355328 : Nat); omega) | (unfold maxLen; omega)) rfl ?_; clear hA hM a; intro a36 c37 w21 hM
          replace hM : Mem _ _ [pt b34 #[.slice ka32 ((((i.cost.getD k [])).take 70).length) kc33] 22, own 3 1 (.slice ka32 (((((i.cost.getD k [])).take 70)).length) kc33) (((((i.cost.getD k [])).take 70)).length) (((((i.cost.getD k [])).take 70)).map (Value.int .i64)), pt b23 #[.int .i64 i.kind, .int .i64 i.n, .int .i64 i.cap, .slice ka5 ((i.wt.take 70).length) kc6, .slice ka25 ((i.vl.take 70).length) kc26, .slice ao rs.length co] 25, own 3 1 (.slice ka5 (((i.wt.take 70)).length) kc6) (((i.wt.take 70)).length) (((i.wt.take 70)).map (Value.int .i64)), own 3 1 (.slice ka25 (((i.vl.take 70)).length) kc26) (((i.vl.take 70)).length) (((i.vl.take 70)).map (Value.int .i64)), own 22 1 (.slice a36 (rs.length + 1) c37) (rs.length + 1) (((rs.map orV) ++ [.slice ka32 ((((i.cost.getD k [])).take 70).length) kc33])), bundle (rs.map (orC 3)), pt b3 #[.int .i64 0, .int .i64 0, .int .i64 0, .slice none 0 0, .slice none 0 0, .slice none 0 0] 25, pt b1 #[.int .i64 i.kind, .int .i64 i.n, .int .i64 i.cap, .slice ax3 i.wt.length cx3, .slice ax4 i.vl.length cx4, .slice ax5 i.cost.length cx5] 25] _ := hM
          replace hM := hM.drop 0
          replace hM : Mem _ _ [own 3 1 (.slice ka32 (((((i.cost.getD k [])).take 70)).length) kc33) (((((i.cost.getD k [])).take 70)).length) (((((i.cost.getD k [])).take 70)).map (Value.int .i64)), pt b23 #[.int .i64 i.kind, .int .i64 i.n, .int .i64 i.cap, .slice ka5 ((i.wt.take 70).length) kc6, .slice ka25 ((i.vl.take 70).length) kc26, .slice ao rs.length co] 25, own 3 1 (.slice ka5 (((i.wt.take 70)).length) kc6) (((i.wt.take 70)).length) (((i.wt.take 70)).map (Value.int .i64)), own 3 1 (.slice ka25 (((i.vl.take 70)).length) kc26) (((i.vl.take 70)).length) (((i.vl.take 70)).map (Value.int .i64)), own 22 1 (.slice a36 (rs.length + 1) c37) (rs.length + 1) (((rs.map orV) ++ [.slice ka32 ((((i.cost.getD k [])).take 70).length) kc33])), bundle (rs.map (orC 3)), pt b3 #[.int .i64 0, .int .i64 0, .int .i64 0, .slice none 0 0, .slice none 0 0, .slice none 0 0] 25, pt b1 #[.int .i64 i.kind, .int .i64 i.n, .int .i64 i.cap, .slice ax3 i.wt.length cx3, .slice ax4 i.vl.length cx4, .slice ax5 i.cost.length cx5] 25] _ := hM
          refine ⟨(((((hM.drop 5).drop 4).drop 3).drop 2).drop 0), fun a hA => ?_⟩
          refine D.valF hA rfl (fun _ => R.fieldAddr (q := 5) fi25_5 rfl rfl rfl) rfl ?_; clear hA a; intro a hA
          refine D.store (k := 1) hA hM rfl sz23 rfl rfl rfl rfl rfl ?_; clear hM
          intro w22 hM; refine ⟨fun _ hne => absurd rfl hne, ?_⟩
          replace hM : Mem _ _ [own 3 1 (.slice ka32 (((((i.cost.getD k [])).take 70)).length) kc33) (((((i.cost.getD k [])).take 70)).length) (((((i.cost.getD k [])).take 70)).map (Value.int .i64)), pt b23 #[.int .i64 i.kind, .int .i64 i.n, .int .i64 i.cap, .slice ka5 ((i.wt.take 70).length) kc6, .slice ka25 ((i.vl.take 70).length) kc26, .slice a36 (rs.length + 1) c37] 25, own 3 1 (.slice ka5 (((i.wt.take 70)).length) kc6) (((i.wt.take 70)).length) (((i.wt.take 70)).map (Value.int .i64)), own 3 1 (.slice ka25 (((i.vl.take 70)).length) kc26) (((i.vl.take 70)).length) (((i.vl.take 70)).map (Value.int .i64)), own 22 1 (.slice a36 (rs.length + 1) c37) (rs.length + 1) (((rs.map orV) ++ [.slice ka32 ((((i.cost.getD k [])).take 70).length) kc33])), bundle (rs.map (orC 3)), pt b3 #[.int .i64 0, .int .i64 0, .int .i64 0, .slice none 0 0, .slice none 0 0, .slice none 0 0] 25, pt b1 #[.int .i64 i.kind, .int .i64 i.n, .int .i64 i.cap, .slice ax3 i.wt.length cx3, .slice ax4 i.vl.length cx4, .slice ax5 i.cost.length cx5] 25] _ := hM
          refine D.done ?_
          replace hA : St 41 [(1, _), (2, _), (3, _), (4, _)] a := hA.sub ((.cons rfl (.cons rfl (.cons rfl (.cons rfl .nil)))))
          refine Ends.inBlock ?_
          refine Ends.region ?_
          refine S.val hA (R.move rfl) rfl ?_; clear hA a; intro a hA
          refine S.val hA (R.addI rfl rfl (r := ((k : Int)) + 1) rfl (by omega)) rfl ?_; clear hA a; intro a hA
          refine S.val hA (R.assign rfl) rfl ?_; clear hA a; intro a hA
          refine S.done ?_
          replace hA : St 41 [(1, _), (2, _), (3, _), (4, _)] a := hA.sub ((.cons rfl (.cons rfl (.cons rfl (.cons rfl .nil)))))
          rw [show (Value.slice ka32 ((((i.cost.getD k [])).take 70)).length kc33) = orV (⟨(((i.cost.getD k [])).take 70), ka32, kc33⟩ : OwR) from rfl, orV_snoc', len_snoc' rs (⟨(((i.cost.getD k [])).take 70), ka32, kc33⟩ : OwR)] at hM
          replace hM := hM.front (k := 5) rfl
          replace hM := hM.front (k := 1) rfl
          replace hM := (hM.ownOrC).bundleSnoc
          replace hM := hM.front (k := 6) rfl
          replace hM := hM.front (k := 6) rfl
          replace hM := hM.front (k := 2) rfl
          replace hM := hM.front (k := 6) rfl
          replace hM := hM.front (k := 6) rfl
          replace hM := hM.front (k := 6) rfl
          replace hM := hM.front (k := 6) rfl
          replace hM := hM.firstN 7
          exact hNext ((k + 1, a36, c37, rs ++ [(⟨(((i.cost.getD k [])).take 70), ka32, kc33⟩ : OwR)])) _ _ ((by show 30 - (k + 1) < 30 - k; omega)) ⟨hA.sub ((.cons rfl (.cons rfl (.cons rfl (.cons rfl .nil))))), hM, (by omega), (by rw [List.map_append, hY, takeR_snoc (show k < i.cost.length by omega)]; rfl)⟩
        ·
          have hlr : (i.cost.take 30).map (fun r => r.take 70) = (i.cost.take k).map (fun r => r.take 70) := by
            by_cases h9 : k = 30
            · rw [h9]
            · rw [List.take_of_length_le (show i.cost.length ≤ 30 by omega), List.take_of_length_le (show i.cost.length ≤ k by omega)]
          refine Ends.exit rfl ?_
          replace hA : St 41 [(2, _), (3, _)] a := hA.sub ((.cons rfl (.cons rfl .nil)))
          refine Ends.seq ?_
          refine Ends.region ?_
          refine S.val hA (R.loadA sz25 rfl (hM.range (k := 0) rfl) rfl) rfl ?_; clear hA a; intro a hA
          refine S.storeA (k := 5) hA hM sz25 rfl rfl rfl rfl rfl rfl ?_; clear hM
          intro w23 hM
          replace hM : Mem _ _ [pt b23 #[.int .i64 i.kind, .int .i64 i.n, .int .i64 i.cap, .slice ka5 ((i.wt.take 70).length) kc6, .slice ka25 ((i.vl.take 70).length) kc26, .slice ao rs.length co] 25, own 3 1 (.slice ka5 (((i.wt.take 70)).length) kc6) (((i.wt.take 70)).length) (((i.wt.take 70)).map (Value.int .i64)), own 3 1 (.slice ka25 (((i.vl.take 70)).length) kc26) (((i.vl.take 70)).length) (((i.vl.take 70)).map (Value.int .i64)), own 22 1 (.slice ao rs.length co) rs.length ((rs.map orV)), bundle (rs.map (orC 3)), pt b3 #[.int .i64 i.kind, .int .i64 i.n, .int .i64 i.cap, .slice ka5 ((i.wt.take 70).length) kc6, .slice ka25 ((i.vl.take 70).length) kc26, .slice ao rs.length co] 25, pt b1 #[.int .i64 i.kind, .int .i64 i.n, .int .i64 i.cap, .slice ax3 i.wt.length cx3, .slice ax4 i.vl.length cx4, .slice ax5 i.cost.length cx5] 25] _ := hM
          refine S.done ?_
          replace hA : St 41 [(2, _)] a := hA.sub ((.cons rfl .nil))
          refine Ends.retC (k := 5) Tryd.func16 Tryd.results16 hA hM rfl rfl sz25 rfl ?_
          replace hM := hM.front (k := 4) rfl
          replace hM := hM.front (k := 4) rfl
          replace hM := hM.front (k := 4) rfl
          replace hM := hM.front (k := 4) rfl
          replace hM := hM.firstN 4
          exact ⟨ka5, kc6, ka25, kc26, ao, co, rs, rfl, by rw [hY, ← hlr]; rfl, Mem.pack (cs := insL 3 22 (cutI i) ka5 kc6 ka25 kc26 ao co rs) (L := []) hM⟩
      ·
        refine Ends.region ?_
        refine S.val hA (R.move rfl) rfl ?_; clear hA a; intro a hA
        refine S.val hA (R.fieldAddr (q := 5) fi25_5 rfl rfl rfl) rfl ?_; clear hA a; intro a hA
        refine S.val hA (R.load sz23 rfl (hM.cell (k := 6) rfl rfl)) rfl ?_; clear hA a; intro a hA
        refine S.val hA (R.lenS Tryd.underlying23 rfl rfl) rfl ?_; clear hA a; intro a hA
        refine S.val hA (R.lss rfl rfl) rfl ?_; clear hA a; intro a hA
        refine S.val hA (R.move rfl) rfl ?_; clear hA a; intro a hA
        refine hA.split (d := 23) rfl ?_ ?_
        · clear hA; intro hg38 hA
          refine S.valg (dj := 23) hA (by kernel_rfl) rfl (R.move rfl) rfl ?_; clear hA a; intro a hA
          refine S.valg (dj := 23) hA (by kernel_rfl) rfl (R.lss rfl rfl) rfl ?_; clear hA a; intro a hA
          refine S.val hA (R.pickT rfl rfl) rfl ?_; clear hA a; intro a hA
          refine S.done ?_
          replace hA : St 41 [(1, _), (2, _), (3, _), (4, _), (26, _)] a := hA.sub ((.cons rfl (.cons rfl (.cons rfl (.cons rfl (.cons rfl .nil))))))
          exact hJ _ _ ⟨hA.sub (.cons rfl (.cons rfl (.cons rfl (.cons rfl (.cons (by first | rfl | exact congrArg (fun b => some (Value.bool b)) (by first | exact decide_eq_decide.2 (by omega) | exact or_bool (by omega) | exact and_bool (by omega) | (simp; done) | (simp [hg38]; done) | (have h80 := hg38; (try simp at h80); simp [h80]; done) | exact (decide_eq_false (fun h9 => hg38 h9.1)).symm)) .nil))))), hM⟩
        · clear hA; intro hg38 hA
          refine S.no (dj := 23) hA (by kernel_rfl) rfl rfl rfl ?_; clear hA a; intro a hA
          refine S.no (dj := 23) hA (by kernel_rfl) rfl rfl rfl ?_; clear hA a; intro a hA
          refine S.val hA (R.pickF rfl rfl) rfl ?_; clear hA a; intro a hA
          refine S.done ?_
          replace hA : St 41 [(1, _), (2, _), (3, _), (4, _), (26, _)] a := hA.sub ((.cons rfl (.cons rfl (.cons rfl (.cons rfl (.cons rfl .nil))))))
          exact hJ _ _ ⟨hA.sub (.cons rfl (.cons rfl (.cons rfl (.cons rfl (.cons (by first | rfl | exact congrArg (fun b => some (Value.bool b)) (by first | exact decide_eq_decide.2 (by omega) | exact or_bool (by omega) | exact and_bool (by omega) | (simp; done) | (simp [hg38]; done) | (have h80 := hg38; (try simp at h80); simp [h80]; done) | exact (decide_eq_false (fun h9 => hg38 h9.1)).symm)) .nil))))), hM⟩
  ·
    refine D.alloc hA hM rfl info25 rfl rfl ?_; clear hA hM a; intro b39 w24 hb40 hM; refine ⟨(fun hM => hM) hM.tail, fun a hA => ?_⟩
    replace hM : Mem _ _ [pt b39 #[.int .i64 0, .int .i64 0, .int .i64 0, .slice none 0 0, .slice none 0 0, .slice none 0 0] 25, pt b3 #[.int .i64 0, .int .i64 0, .int .i64 0, .slice none 0 0, .slice none 0 0, .slice none 0 0] 25, pt b1 #[.int .i64 i.kind, .int .i64 i.n, .int .i64 i.cap, .slice ax3 i.wt.length cx3, .slice ax4 i.vl.length cx4, .slice ax5 i.cost.length cx5] 25] _ := hM
    refine D.call hA rfl (R.callF Tryd.func36 rfl rfl rfl) rfl (cut05 ax3 i.wt cx3 _ (hx3.mem hM)) ?_; clear hA a
    rintro e w25 ⟨ka41, kc42, rfl, hn⟩
    replace hM : Mem _ _ [own 3 1 (.slice ka41 (((i.wt.take 70)).length) kc42) (((i.wt.take 70)).length) (((i.wt.take 70)).map (Value.int .i64)), pt b39 #[.int .i64 0, .int .i64 0, .int .i64 0, .slice none 0 0, .slice none 0 0, .slice none 0 0] 25, pt b3 #[.int .i64 0, .int .i64 0, .int .i64 0, .slice none 0 0, .slice none 0 0, .slice none 0 0] 25, pt b1 #[.int .i64 i.kind, .int .i64 i.n, .int .i64 i.cap, .slice ax3 i.wt.length cx3, .slice ax4 i.vl.length cx4, .slice ax5 i.cost.length cx5] 25] _ := hM.call hn; clear hn
    refine ⟨.slice ka41 ((i.wt.take 70).length) kc42, rfl, ((hM.drop 1).drop 0), fun a hA => ?_⟩
    refine D.call hA rfl (R.callF Tryd.func36 rfl rfl rfl) rfl (cut05 ax4 i.vl cx4 _ (hx4.mem hM)) ?_; clear hA a
    rintro e w26 ⟨ka43, kc44, rfl, hn⟩
    replace hM : Mem _ _ [own 3 1 (.slice ka43 (((i.vl.take 70)).length) kc44) (((i.vl.take 70)).length) (((i.vl.take 70)).map (Value.int .i64)), own 3 1 (.slice ka41 (((i.wt.take 70)).length) kc42) (((i.wt.take 70)).length) (((i.wt.take 70)).map (Value.int .i64)), pt b39 #[.int .i64 0, .int .i64 0, .int .i64 0, .slice none 0 0, .slice none 0 0, .slice none 0 0] 25, pt b3 #[.int .i64 0, .int .i64 0, .int .i64 0, .slice none 0 0, .slice none 0 0, .slice none 0 0] 25, pt b1 #[.int .i64 i.kind, .int .i64 i.n, .int .i64 i.cap, .slice ax3 i.wt.length cx3, .slice ax4 i.vl.length cx4, .slice ax5 i.cost.length cx5] 25] _ := hM.call hn; clear hn
    refine ⟨.slice ka43 ((i.vl.take 70).length) kc44, rfl, (((hM.drop 2).drop 1).drop 0), fun a hA => ?_⟩
    refine D.valF hA rfl (fun _ => R.build (cells := #[.int .i64 i.kind, .int .i64 i.n, .int .i64 i.cap, .slice ka41 ((i.wt.take 70).length) kc42, .slice ka43 ((i.vl.take 70).length) kc44, .slice none 0 0]) rfl (by kernel_rfl)) rfl ?_; clear hA a; intro a hA
    refine D.storeA (k := 2) hA hM rfl sz25 rfl rfl rfl rfl rfl rfl ?_; clear hM
    intro w27 hM; refine ⟨fun _ hne => absurd rfl hne, ?_⟩
    replace hM : Mem _ _ [own 3 1 (.slice ka43 (((i.vl.take 70)).length) kc44) (((i.vl.take 70)).length) (((i.vl.take 70)).map (Value.int .i64)), own 3 1 (.slice ka41 (((i.wt.take 70)).length) kc42) (((i.wt.take 70)).length) (((i.wt.take 70)).map (Value.int .i64)), pt b39 #[.int .i64 i.kind, .int .i64 i.n, .int .i64 i.cap, .slice ka41 ((i.wt.take 70).length) kc42, .slice ka43 ((i.vl.take 70).length) kc44, .slice none 0 0] 25, pt b3 #[.int .i64 0, .int .i64 0, .int .i64 0, .slice none 0 0, .slice none 0 0, .slice none 0 0] 25, pt b1 #[.int .i64 i.kind, .int .i64 i.n, .int .i64 i.cap, .slice ax3 i.wt.length cx3, .slice ax4 i.vl.length cx4, .slice ax5 i.cost.length cx5] 25] _ := hM
    refine D.done ?_
    replace hA : St 41 [(1, _), (2, _), (3, _)] a := hA.sub ((.cons rfl (.cons rfl (.cons rfl .nil))))
    refine Ends.seq ?_
    refine Ends.seq ?_
    refine Ends.region ?_
    refine S.val hA (R.assign rfl) rfl ?_; clear hA a; intro a hA
    refine S.done ?_
    replace hA : St 41 [(1, _), (2, _), (3, _), (4, _)] a := hA.sub ((.cons rfl (.cons rfl (.cons rfl (.cons rfl .nil)))))
    refine Ends.block ?_
    replace hM := (hM.bundleNil (e := 3)).ownNil 22 1
    replace hM := hM.front (k := 6) rfl
    replace hM := hM.front (k := 6) rfl
    replace hM := hM.front (k := 3) rfl
    replace hM := hM.front (k := 3) rfl
    replace hM := hM.front (k := 4) rfl
    replace hM := hM.front (k := 5) rfl
    replace hM := hM.front (k := 6) rfl
    replace hM : Mem _ _ [pt b39 #[.int .i64 i.kind, .int .i64 i.n, .int .i64 i.cap, .slice ka41 ((i.wt.take 70).length) kc42, .slice ka43 ((i.vl.take 70).length) kc44, .slice none (([] : List OwR).length) 0] 25, own 3 1 (.slice ka41 (((i.wt.take 70)).length) kc42) (((i.wt.take 70)).length) (((i.wt.take 70)).map (Value.int .i64)), own 3 1 (.slice ka43 (((i.vl.take 70)).length) kc44) (((i.vl.take 70)).length) (((i.vl.take 70)).map (Value.int .i64)), own 22 1 (.slice none (([] : List OwR).length) 0) (([] : List OwR).length) ((([] : List OwR).map orV)), bundle (([] : List OwR).map (orC 3)), pt b3 #[.int .i64 0, .int .i64 0, .int .i64 0, .slice none 0 0, .slice none 0 0, .slice none 0 0] 25, pt b1 #[.int .i64 i.kind, .int .i64 i.n, .int .i64 i.cap, .slice ax3 i.wt.length cx3, .slice ax4 i.vl.length cx4, .slice ax5 i.cost.length cx5] 25] _ := hM
    refine Ends.loop (σ := Nat × Option Addr × Nat × List OwR) (fun (k, ao, co, rs) (a : Act) (wv : World) => St 41 [(1, .pointer (some ⟨b1, 0, none⟩)), (2, .pointer (some ⟨b3, 0, none⟩)), (3, .pointer (some ⟨b39, 0, none⟩)), (4, .int .i64 ((k : Int)))] a ∧ Mem w nof [pt b39 #[.int .i64 i.kind, .int .i64 i.n, .int .i64 i.cap, .slice ka41 ((i.wt.take 70).length) kc42, .slice ka43 ((i.vl.take 70).length) kc44, .slice ao rs.length co] 25, own 3 1 (.slice ka41 (((i.wt.take 70)).length) kc42) (((i.wt.take 70)).length) (((i.wt.take 70)).map (Value.int .i64)), own 3 1 (.slice ka43 (((i.vl.take 70)).length) kc44) (((i.vl.take 70)).length) (((i.vl.take 70)).map (Value.int .i64)), own 22 1 (.slice ao rs.length co) rs.length ((rs.map orV)), bundle (rs.map (orC 3)), pt b3 #[.int .i64 0, .int .i64 0, .int .i64 0, .slice none 0 0, .slice none 0 0, .slice none 0 0] 25, pt b1 #[.int .i64 i.kind, .int .i64 i.n, .int .i64 i.cap, .slice ax3 i.wt.length cx3, .slice ax4 i.vl.length cx4, .slice ax5 i.cost.length cx5] 25] wv ∧ (k ≤ i.cost.length ∧ k ≤ 30) ∧ (rs.map (·.Y) = (i.cost.take k).map (fun r => r.take 70))) (fun (k, ao, co, rs) => 30 - k) ((0, none, 0, [])) ⟨hA.sub ((.cons rfl (.cons rfl (.cons rfl (.cons rfl .nil))))), hM, (by omega), rfl⟩ ?_
    clear hA hM a
    rintro ⟨k, ao, co, rs⟩ a w28 ⟨hA, hM, hk, hY⟩ hNext
    refine Ends.seq ?_
    refine Ends.seq ?_
    refine Ends.cut (fun (a : Act) (wv : World) => St 41 [(1, .pointer (some ⟨b1, 0, none⟩)), (2, .pointer (some ⟨b3, 0, none⟩)), (3, .pointer (some ⟨b39, 0, none⟩)), (4, .int .i64 ((k : Int))), (26, .bool (decide ((((k : Int)) < ((i.cost.length : Int)) ∧ ((k : Int)) < 30))))] a ∧ Mem w nof [pt b39 #[.int .i64 i.kind, .int .i64 i.n, .int .i64 i.cap, .slice ka41 ((i.wt.take 70).length) kc42, .slice ka43 ((i.vl.take 70).length) kc44, .slice ao rs.length co] 25, own 3 1 (.slice ka41 (((i.wt.take 70)).length) kc42) (((i.wt.take 70)).length) (((i.wt.take 70)).map (Value.int .i64)), own 3 1 (.slice ka43 (((i.vl.take 70)).length) kc44) (((i.vl.take 70)).length) (((i.vl.take 70)).map (Value.int .i64)), own 22 1 (.slice ao rs.length co) rs.length ((rs.map orV)), bundle (rs.map (orC 3)), pt b3 #[.int .i64 0, .int .i64 0, .int .i64 0, .slice none 0 0, .slice none 0 0, .slice none 0 0] 25, pt b1 #[.int .i64 i.kind, .int .i64 i.n, .int .i64 i.cap, .slice ax3 i.wt.length cx3, .slice ax4 i.vl.length cx4, .slice ax5 i.cost.length cx5] 25] wv) ?_ (fun k2 hJ => ?_)
    · clear hA hM a; rintro a w29 ⟨hA, hM⟩
      refine Ends.ite hA rfl (fun hc45 => ?_) (fun hc45 => ?_)
      ·
        have hlr : rs.length = k := by have := congrArg List.length hY; simpa [List.length_take, Nat.min_eq_left hk.1] using this
        refine Ends.skip ?_
        refine Ends.seq ?_
        refine Ends.block ?_
        refine Ends.drawn (Mem w nof [pt b39 #[.int .i64 i.kind, .int .i64 i.n, .int .i64 i.cap, .slice ka41 ((i.wt.take 70).length) kc42, .slice ka43 ((i.vl.take 70).length) kc44, .slice ao rs.length co] 25, pt b3 #[.int .i64 0, .int .i64 0, .int .i64 0, .slice none 0 0, .slice none 0 0, .slice none 0 0] 25, pt b1 #[.int .i64 i.kind, .int .i64 i.n, .int .i64 i.cap, .slice ax3 i.wt.length cx3, .slice ax4 i.vl.length cx4, .slice ax5 i.cost.length cx5] 25]) (.cons (0, true) (.cons (1, true) (.cons (2, true) (.cons (3, true) (.cons (4, true) (.cons (5, true) (.cons (6, true) (.cons (7, false) (.cons (8, false) (.cons (9, false) (.cons (10, true) (.cons (11, false) .nil)))))))))))) 11 mixed (by kernel_rfl) (by kernel_rfl) (by kernel_rfl) ((((hM.drop 4).drop 3).drop 2).drop 1).drew ?_
        replace hM := hM.drew
        refine D.valF hA rfl (fun _ => R.fieldAddr (q := 5) fi25_5 rfl rfl rfl) rfl ?_; clear hA a; intro a hA
        refine D.val hA rfl (by kernel_rfl) (fun _ hM => R.load sz23 rfl (hM.cell (k := 0) rfl rfl)) rfl ?_; clear hA a; intro a hA
        refine D.valF hA rfl (fun _ => R.fieldAddr (q := 5) fi25_5 rfl rfl rfl) rfl ?_; clear hA a; intro a hA
        refine D.val hA rfl (by kernel_rfl) (fun _ hM => R.load sz23 rfl (hM.cell (k := 2) rfl rfl)) rfl ?_; clear hA a; intro a hA
        refine D.valF hA rfl (fun _ => R.move rfl) rfl ?_; clear hA a; intro a hA
        refine D.valF hA rfl (fun _ => R.idxR hx5 (j := k) sl23 rfl rfl (by omega) (rfl)) rfl ?_; clear hA a; intro a hA
        obtain ⟨ra46, rc47, hrow48, hld49⟩ := hx5.atP (i := k) (by omega)
        refine D.val hA rfl (by kernel_rfl) (fun _ hM => hld49 _ _ _ _ _ _ hM sz22 rfl) rfl ?_; clear hA a; intro a hA
        refine D.call hA rfl (R.callF Tryd.func36 rfl rfl rfl) rfl (cut05 ra46 ((i.cost.getD k [])) rc47 _ (hrow48.mem hM)) ?_; clear hA a
        rintro e w30 ⟨ka50, kc51, rfl, hn⟩
        replace hM : Mem _ _ [own 3 1 (.slice ka50 (((((i.cost.getD k [])).take 70)).length) kc51) (((((i.cost.getD k [])).take 70)).length) (((((i.cost.getD k [])).take 70)).map (Value.int .i64)), pt b39 #[.int .i64 i.kind, .int .i64 i.n, .int .i64 i.cap, .slice ka41 ((i.wt.take 70).length) kc42, .slice ka43 ((i.vl.take 70).length) kc44, .slice ao rs.length co] 25, own 3 1 (.slice ka41 (((i.wt.take 70)).length) kc42) (((i.wt.take 70)).length) (((i.wt.take 70)).map (Value.int .i64)), own 3 1 (.slice ka43 (((i.vl.take 70)).length) kc44) (((i.vl.take 70)).length) (((i.vl.take 70)).map (Value.int .i64)), own 22 1 (.slice ao rs.length co) rs.length ((rs.map orV)), bundle (rs.map (orC 3)), pt b3 #[.int .i64 0, .int .i64 0, .int .i64 0, .slice none 0 0, .slice none 0 0, .slice none 0 0] 25, pt b1 #[.int .i64 i.kind, .int .i64 i.n, .int .i64 i.cap, .slice ax3 i.wt.length cx3, .slice ax4 i.vl.length cx4, .slice ax5 i.cost.length cx5] 25] _ := hM.call hn; clear hn
        refine ⟨.slice ka50 ((((i.cost.getD k [])).take 70).length) kc51, rfl, (((((hM.drop 5).drop 4).drop 3).drop 2).drop 0), fun a hA => ?_⟩
        refine D.buildSl (cells := #[.slice ka50 ((((i.cost.getD k [])).take 70).length) kc51]) hA hM rfl Tryd.underlying23 info22 rfl rfl rfl rfl (by kernel_rfl) rfl ?_; clear hA hM a; intro b52 w31 hb53 hM; refine ⟨(fun hM => (((((hM.drop 5).drop 4).drop 3).drop 2).drop 0)) hM.tail, fun a hA => ?_⟩
        replace hM : Mem _ _ [pt b52 #[.slice ka50 ((((i.cost.getD k [])).take 70).length) kc51] 22, own 3 1 (.slice ka50 (((((i.cost.getD k [])).take 70)).length) kc51) (((((i.cost.getD k [])).take 70)).length) (((((i.cost.getD k [])).take 70)).map (Value.int .i64)), pt b39 #[.int .i64 i.kind, .int .i64 i.n, .int .i64 i.cap, .slice ka41 ((i.wt.take 70).length) kc42, .slice ka43 ((i.vl.take 70).length) kc44, .slice ao rs.length co] 25, own 3 1 (.slice ka41 (((i.wt.take 70)).length) kc42) (((i.wt.take 70)).length) (((i.wt.take 70)).map (Value.int .i64)), own 3 1 (.slice ka43 (((i.vl.take 70)).length) kc44) (((i.vl.take 70)).length) (((i.vl.take 70)).map (Value.int .i64)), own 22 1 (.slice ao rs.length co) rs.length ((rs.map orV)), bundle (rs.map (orC 3)), pt b3 #[.int .i64 0, .int .i64 0, .int .i64 0, .slice none 0 0, .slice none 0 0, .slice none 0 0] 25, pt b1 #[.int .i64 i.kind, .int .i64 i.n, .int .i64 i.cap, .slice ax3 i.wt.length cx3, .slice ax4 i.vl.length cx4, .slice ax5 i.cost.length cx5] 25] _ := hM
        refine D.append (k := 5) (k2 := 0) hA hM rfl rfl rfl Tryd.underlying23 info22 rfl rfl rfl rfl rfl rfl rfl rfl rfl (by first | (rw [take_min70, List.length_take]; unfold maxLen; omega) | (rw [take_min70, List.length_take]; show (0 + _) * 8 ≤ (140737488355328 : Nat); omega) | omega | (show (_ + 1) * 24 ≤ (140737488355328 : Nat); omega) | (unfold maxLen; omega)) (by first | (rw [take_min70, List.length_take]; unfold maxLen; omega) | (rw [take_min70, List.length_take]; show (0 + _) * 8 ≤ (140737488355328 : Nat); omega) | omega | (show (_ + 1) * 24 ≤ (140737488355328 : Nat); omega) | (unfold maxLen; omega)) rfl ?_; clear hA hM a; intro a54 c55 w32 hM
        replace hM : Mem _ _ [pt b52 #[.slice ka50 ((((i.cost.getD k [])).take 70).length) kc51] 22, own 3 1 (.slice ka50 (((((i.cost.getD k [])).take 70)).length) kc51) (((((i.cost.getD k [])).take 70)).length) (((((i.cost.getD k [])).take 70)).map (Value.int .i64)), pt b39 #[.int .i64 i.kind, .int .i64 i.n, .int .i64 i.cap, .slice ka41 ((i.wt.take 70).length) kc42, .slice ka43 ((i.vl.take 70).length) kc44, .slice ao rs.length co] 25, own 3 1 (.slice ka41 (((i.wt.take 70)).length) kc42) (((i.wt.take 70)).length) (((i.wt.take 70)).map (Value.int .i64)), own 3 1 (.slice ka43 (((i.vl.take 70)).length) kc44) (((i.vl.take 70)).length) (((i.vl.take 70)).map (Value.int .i64)), own 22 1 (.slice a54 (rs.length + 1) c55) (rs.length + 1) (((rs.map orV) ++ [.slice ka50 ((((i.cost.getD k [])).take 70).length) kc51])), bundle (rs.map (orC 3)), pt b3 #[.int .i64 0, .int .i64 0, .int .i64 0, .slice none 0 0, .slice none 0 0, .slice none 0 0] 25, pt b1 #[.int .i64 i.kind, .int .i64 i.n, .int .i64 i.cap, .slice ax3 i.wt.length cx3, .slice ax4 i.vl.length cx4, .slice ax5 i.cost.length cx5] 25] _ := hM
        replace hM := hM.drop 0
        replace hM : Mem _ _ [own 3 1 (.slice ka50 (((((i.cost.getD k [])).take 70)).length) kc51) (((((i.cost.getD k [])).take 70)).length) (((((i.cost.getD k [])).take 70)).map (Value.int .i64)), pt b39 #[.int .i64 i.kind, .int .i64 i.n, .int .i64 i.cap, .slice ka41 ((i.wt.take 70).length) kc42, .slice ka43 ((i.vl.take 70).length) kc44, .slice ao rs.length co] 25, own 3 1 (.slice ka41 (((i.wt.take 70)).length) kc42) (((i.wt.take 70)).length) (((i.wt.take 70)).map (Value.int .i64)), own 3 1 (.slice ka43 (((i.vl.take 70)).length) kc44) (((i.vl.take 70)).length) (((i.vl.take 70)).map (Value.int .i64)), own 22 1 (.slice a54 (rs.length + 1) c55) (rs.length + 1) (((rs.map orV) ++ [.slice ka50 ((((i.cost.getD k [])).take 70).length) kc51])), bundle (rs.map (orC 3)), pt b3 #[.int .i64 0, .int .i64 0, .int .i64 0, .slice none 0 0, .slice none 0 0, .slice none 0 0] 25, pt b1 #[.int .i64 i.kind, .int .i64 i.n, .int .i64 i.cap, .slice ax3 i.wt.length cx3, .slice ax4 i.vl.length cx4, .slice ax5 i.cost.length cx5] 25] _ := hM
        refine ⟨(((((hM.drop 5).drop 4).drop 3).drop 2).drop 0), fun a hA => ?_⟩
        refine D.valF hA rfl (fun _ => R.fieldAddr (q := 5) fi25_5 rfl rfl rfl) rfl ?_; clear hA a; intro a hA
        refine D.store (k := 1) hA hM rfl sz23 rfl rfl rfl rfl rfl ?_; clear hM
        intro w33 hM; refine ⟨fun _ hne => absurd rfl hne, ?_⟩
        replace hM : Mem _ _ [own 3 1 (.slice ka50 (((((i.cost.getD k [])).take 70)).length) kc51) (((((i.cost.getD k [])).take 70)).length) (((((i.cost.getD k [])).take 70)).map (Value.int .i64)), pt b39 #[.int .i64 i.kind, .int .i64 i.n, .int .i64 i.cap, .slice ka41 ((i.wt.take 70).length) kc42, .slice ka43 ((i.vl.take 70).length) kc44, .slice a54 (rs.length + 1) c55] 25, own 3 1 (.slice ka41 (((i.wt.take 70)).length) kc42) (((i.wt.take 70)).length) (((i.wt.take 70)).map (Value.int .i64)), own 3 1 (.slice ka43 (((i.vl.take 70)).length) kc44) (((i.vl.take 70)).length) (((i.vl.take 70)).map (Value.int .i64)), own 22 1 (.slice a54 (rs.length + 1) c55) (rs.length + 1) (((rs.map orV) ++ [.slice ka50 ((((i.cost.getD k [])).take 70).length) kc51])), bundle (rs.map (orC 3)), pt b3 #[.int .i64 0, .int .i64 0, .int .i64 0, .slice none 0 0, .slice none 0 0, .slice none 0 0] 25, pt b1 #[.int .i64 i.kind, .int .i64 i.n, .int .i64 i.cap, .slice ax3 i.wt.length cx3, .slice ax4 i.vl.length cx4, .slice ax5 i.cost.length cx5] 25] _ := hM
        refine D.done ?_
        replace hA : St 41 [(1, _), (2, _), (3, _), (4, _)] a := hA.sub ((.cons rfl (.cons rfl (.cons rfl (.cons rfl .nil)))))
        refine Ends.inBlock ?_
        refine Ends.region ?_
        refine S.val hA (R.move rfl) rfl ?_; clear hA a; intro a hA
        refine S.val hA (R.addI rfl rfl (r := ((k : Int)) + 1) rfl (by omega)) rfl ?_; clear hA a; intro a hA
        refine S.val hA (R.assign rfl) rfl ?_; clear hA a; intro a hA
        refine S.done ?_
        replace hA : St 41 [(1, _), (2, _), (3, _), (4, _)] a := hA.sub ((.cons rfl (.cons rfl (.cons rfl (.cons rfl .nil)))))
        rw [show (Value.slice ka50 ((((i.cost.getD k [])).take 70)).length kc51) = orV (⟨(((i.cost.getD k [])).take 70), ka50, kc51⟩ : OwR) from rfl, orV_snoc', len_snoc' rs (⟨(((i.cost.getD k [])).take 70), ka50, kc51⟩ : OwR)] at hM
        replace hM := hM.front (k := 5) rfl
        replace hM := hM.front (k := 1) rfl
        replace hM := (hM.ownOrC).bundleSnoc
        replace hM := hM.front (k := 6) rfl
        replace hM := hM.front (k := 6) rfl
        replace hM := hM.front (k := 2) rfl
        replace hM := hM.front (k := 6) rfl
        replace hM := hM.front (k := 6) rfl
        replace hM := hM.front (k := 6) rfl
        replace hM := hM.front (k := 6) rfl
        replace hM := hM.firstN 7
        exact hNext ((k + 1, a54, c55, rs ++ [(⟨(((i.cost.getD k [])).take 70), ka50, kc51⟩ : OwR)])) _ _ ((by show 30 - (k + 1) < 30 - k; omega)) ⟨hA.sub ((.cons rfl (.cons rfl (.cons rfl (.cons rfl .nil))))), hM, (by omega), (by rw [List.map_append, hY, takeR_snoc (show k < i.cost.length by omega)]; rfl)⟩
      ·
        have hlr : (i.cost.take 30).map (fun r => r.take 70) = (i.cost.take k).map (fun r => r.take 70) := by
          by_cases h9 : k = 30
          · rw [h9]
          · rw [List.take_of_length_le (show i.cost.length ≤ 30 by omega), List.take_of_length_le (show i.cost.length ≤ k by omega)]
        refine Ends.exit rfl ?_
        replace hA : St 41 [(2, _), (3, _)] a := hA.sub ((.cons rfl (.cons rfl .nil)))
        refine Ends.seq ?_
        refine Ends.region ?_
        refine S.val hA (R.loadA sz25 rfl (hM.range (k := 0) rfl) rfl) rfl ?_; clear hA a; intro a hA
        refine S.storeA (k := 5) hA hM sz25 rfl rfl rfl rfl rfl rfl ?_; clear hM
        intro w34 hM
        replace hM : Mem _ _ [pt b39 #[.int .i64 i.kind, .int .i64 i.n, .int .i64 i.cap, .slice ka41 ((i.wt.take 70).length) kc42, .slice ka43 ((i.vl.take 70).length) kc44, .slice ao rs.length co] 25, own 3 1 (.slice ka41 (((i.wt.take 70)).length) kc42) (((i.wt.take 70)).length) (((i.wt.take 70)).map (Value.int .i64)), own 3 1 (.slice ka43 (((i.vl.take 70)).length) kc44) (((i.vl.take 70)).length) (((i.vl.take 70)).map (Value.int .i64)), own 22 1 (.slice ao rs.length co) rs.length ((rs.map orV)), bundle (rs.map (orC 3)), pt b3 #[.int .i64 i.kind, .int .i64 i.n, .int .i64 i.cap, .slice ka41 ((i.wt.take 70).length) kc42, .slice ka43 ((i.vl.take 70).length) kc44, .slice ao rs.length co] 25, pt b1 #[.int .i64 i.kind, .int .i64 i.n, .int .i64 i.cap, .slice ax3 i.wt.length cx3, .slice ax4 i.vl.length cx4, .slice ax5 i.cost.length cx5] 25] _ := hM
        refine S.done ?_
        replace hA : St 41 [(2, _)] a := hA.sub ((.cons rfl .nil))
        refine Ends.retC (k := 5) Tryd.func16 Tryd.results16 hA hM rfl rfl sz25 rfl ?_
        replace hM := hM.front (k := 4) rfl
        replace hM := hM.front (k := 4) rfl
        replace hM := hM.front (k := 4) rfl
        replace hM := hM.front (k := 4) rfl
        replace hM := hM.firstN 4
        exact ⟨ka41, kc42, ka43, kc44, ao, co, rs, rfl, by rw [hY, ← hlr]; rfl, Mem.pack (cs := insL 3 22 (cutI i) ka41 kc42 ka43 kc44 ao co rs) (L := []) hM⟩
    ·
      refine Ends.region ?_
      refine S.val hA (R.move rfl) rfl ?_; clear hA a; intro a hA
      refine S.val hA (R.fieldAddr (q := 5) fi25_5 rfl rfl rfl) rfl ?_; clear hA a; intro a hA
      refine S.val hA (R.load sz23 rfl (hM.cell (k := 6) rfl rfl)) rfl ?_; clear hA a; intro a hA
      refine S.val hA (R.lenS Tryd.underlying23 rfl rfl) rfl ?_; clear hA a; intro a hA
      refine S.val hA (R.lss rfl rfl) rfl ?_; clear hA a; intro a hA
      refine S.val hA (R.move rfl) rfl ?_; clear hA a; intro a hA
      refine hA.split (d := 23) rfl ?_ ?_
      · clear hA; intro hg56 hA
        refine S.valg (dj := 23) hA (by kernel_rfl) rfl (R.move rfl) rfl ?_; clear hA a; intro a hA
        refine S.valg (dj := 23) hA (by kernel_rfl) rfl (R.lss rfl rfl) rfl ?_; clear hA a; intro a hA
        refine S.val hA (R.pickT rfl rfl) rfl ?_; clear hA a; intro a hA
        refine S.done ?_
        replace hA : St 41 [(1, _), (2, _), (3, _), (4, _), (26, _)] a := hA.sub ((.cons rfl (.cons rfl (.cons rfl (.cons rfl (.cons rfl .nil))))))
        exact hJ _ _ ⟨hA.sub (.cons rfl (.cons rfl (.cons rfl (.cons rfl (.cons (by first | rfl | exact congrArg (fun b => some (Value.bool b)) (by first | exact decide_eq_decide.2 (by omega) | exact or_bool (by omega) | exact and_bool (by omega) | (simp; done) | (simp [hg56]; done) | (have h80 := hg56; (try simp at h80); simp [h80]; done) | exact (decide_eq_false (fun h9 => hg56 h9.1)).symm)) .nil))))), hM⟩
      · clear hA; intro hg56 hA
        refine S.no (dj := 23) hA (by kernel_rfl) rfl rfl rfl ?_; clear hA a; intro a hA
        refine S.no (dj := 23) hA (by kernel_rfl) rfl rfl rfl ?_; clear hA a; intro a hA
        refine S.val hA (R.pickF rfl rfl) rfl ?_; clear hA a; intro a hA
        refine S.done ?_
        replace hA : St 41 [(1, _), (2, _), (3, _), (4, _), (26, _)] a := hA.sub ((.cons rfl (.cons rfl (.cons rfl (.cons rfl (.cons rfl .nil))))))
        exact hJ _ _ ⟨hA.sub (.cons rfl (.cons rfl (.cons rfl (.cons rfl (.cons (by first | rfl | exact congrArg (fun b => some (Value.bool b)) (by first | exact decide_eq_decide.2 (by omega) | exact or_bool (by omega) | exact and_bool (by omega) | (simp; done) | (simp [hg56]; done) | (have h80 := hg56; (try simp at h80); simp [h80]; done) | exact (decide_eq_false (fun h9 => hg56 h9.1)).symm)) .nil))))), hM⟩
theorem copy05 (i : Ins) (ax3 : Option Addr) (cx3 : Nat) (ax4 : Option Addr) (cx4 : Nat) (ax5 : Option Addr) (cx5 : Nat) (w : World) (hx3 : IntSl w (.slice ax3 i.wt.length cx3) i.wt) (hx4 : IntSl w (.slice ax4 i.vl.length cx4) i.vl) (hx5 : RowsV w (.slice ax5 i.cost.length cx5) i.cost) : Calls Tryd.prog 16 #[.agg #[.int .i64 i.kind, .int .i64 i.n, .int .i64 i.cap, .slice ax3 i.wt.length cx3, .slice ax4 i.vl.length cx4, .slice ax5 i.cost.length cx5]] w fun e w' => ∃ aw cw av cv ac cc, e = .returned (insG (cutI i) aw cw av cv ac cc) ∧ insR w' (cutI i) aw cw av cv ac cc ∧ Below w.heap.size w w' :=
  (copy05_own i ax3 cx3 ax4 cx4 ax5 cx5 w hx3 hx4 hx5).mono fun e w' ⟨aw, cw, av, cv, ac, cc, rs, he, hY, hM⟩ => by
    obtain ⟨e2, hr⟩ := insR_of hM (k := 0) rfl hY
    exact ⟨aw, cw, av, cv, ac, cc, by rw [he, e2], hr, hM.nilL.below⟩
theorem copyG (i : Ins) (ax3 : Option Addr) (cx3 : Nat) (ax4 : Option Addr) (cx4 : Nat) (ax5 : Option Addr) (cx5 : Nat) (G : Ins) (hG : G = cutI i) (w : World) (hx3 : IntSl w (.slice ax3 i.wt.length cx3) i.wt) (hx4 : IntSl w (.slice ax4 i.vl.length cx4) i.vl) (hx5 : RowsV w (.slice ax5 i.cost.length cx5) i.cost) : Calls Tryd.prog 16 #[.agg #[.int .i64 i.kind, .int .i64 i.n, .int .i64 i.cap, .slice ax3 i.wt.length cx3, .slice ax4 i.vl.length cx4, .slice ax5 i.cost.length cx5]] w fun e w' => ∃ aw cw av cv ac cc rs, e = .returned (insA G aw cw av cv ac cc rs) ∧ rs.map (·.Y) = G.cost ∧ Mem w nof [bundle (insL 3 22 G aw cw av cv ac cc rs)] w' := by
  subst hG; exact copy05_own i ax3 cx3 ax4 cx4 ax5 cx5 w hx3 hx4 hx5
theorem copyS (i : Ins) (ax3 : Option Addr) (cx3 : Nat) (ax4 : Option Addr) (cx4 : Nat) (ax5 : Option Addr) (cx5 : Nat) (hi : cutI i = i) (w : World) (hx3 : IntSl w (.slice ax3 i.wt.length cx3) i.wt) (hx4 : IntSl w (.slice ax4 i.vl.length cx4) i.vl) (hx5 : RowsV w (.slice ax5 i.cost.length cx5) i.cost) : Calls Tryd.prog 16 #[.agg #[.int .i64 i.kind, .int .i64 i.n, .int .i64 i.cap, .slice ax3 i.wt.length cx3, .slice ax4 i.vl.length cx4, .slice ax5 i.cost.length cx5]] w fun e w' => ∃ aw cw av cv ac cc, e = .returned (insG i aw cw av cv ac cc) ∧ insR w' i aw cw av cv ac cc ∧ Below w.heap.size w w' := by
  have h := copy05 i ax3 cx3 ax4 cx4 ax5 cx5 w hx3 hx4 hx5
  rwa [hi] at h
end Go.Proofs.YtakfcekfmdjklaaDoor
