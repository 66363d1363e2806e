/-
  ValueTurns, part 2 of 3: what the code computes, and plain laws; no condition beside those that each theorem tells.
-/
import Derived.Test.YtnikajkklocncaaValueTurnsA
import Derived.ChangeKeysEq
import Derived.OpenShut
import Derived.ProofKit
import Derived.Deep.Slices
namespace Go.Proofs.Ytnikajkklocncaa
open Go.RowKit
theorem take_min70 (X : List Int) : X.take (min (X.length : Int) 70).toNat = X.take 70 := by
  by_cases h : X.length ≤ 70
  · rw [List.take_of_length_le h, List.take_of_length_le (by omega)]
  · rw [show (min (X.length : Int) 70).toNat = 70 by omega]
theorem takeR_snoc {R : List (List Int)} {k : Nat} (h : k < R.length) (f : List Int → List Int) : (R.take (k + 1)).map f = (R.take k).map f ++ [f (R.getD k [])] := by
  rw [List.take_succ_eq_append_getElem h, List.map_append, List.getD_eq_getElem?_getD, List.getElem?_eq_getElem h]; rfl
set_option maxRecDepth 100000 in
set_option maxHeartbeats 400000 in
theorem cut05 (ax : Option Addr) (X : List Int) (cx : Nat) (w : World) (hx : IntSl w (.slice ax X.length cx) X) :
    Calls Try.prog 39 #[.slice ax X.length cx] w fun e w' => ∃ a c, e = .returned (.slice a (X.take 70).length c) ∧ Mem w nof [own 3 1 (.slice a (((X.take 70)).length) c) (((X.take 70)).length) (((X.take 70)).map (Value.int .i64))] w' := by
  have hbs := Below.refl (B := w.heap.size) w
  have hM := Mem.start w
  refine Calls.of_ends (vs := [.slice ax X.length cx]) Try.func39 rfl Try.ntmps39 rfl ?_
  intro a hA
  replace hA : St 10 [(0, _)] a := hA
  refine Ends.seq (Ends.region ?_)
  refine S.val hA (R.assign rfl) rfl ?_; clear hA a; intro a hA
  refine S.done ?_
  refine Ends.seq (Ends.region ?_)
  refine S.buildSl0 hA hM Try.underlying22 info3 rfl ?_; clear hA hM a; intro b1 w1 hb2 hM a hA
  replace hM := hM.ownPt (cap := 0) (n := 0) (sz := 1) (xs := []) rfl (Nat.zero_le _) (Nat.le_refl _) rfl
  replace hM : Mem _ _ [own 3 1 (.slice ((some ⟨b1, 0, none⟩)) 0 0) 0 ((([] : List Int)).map (Value.int .i64))] _ := hM
  refine S.val hA (R.move rfl) rfl ?_; clear hA a; intro a hA
  refine S.val hA (R.move rfl) rfl ?_; clear hA a; intro a hA
  refine S.val hA (R.lenS Try.underlying22 rfl rfl) rfl ?_; clear hA a; intro a hA
  refine S.val hA (R.min rfl rfl) rfl ?_; clear hA a; intro a hA
  have hsl3 := hx.cutR ((min ((X.length : Int)) 70).toNat) (by omega)
  refine S.val hA (R.sliceHI (h := (min ((X.length : Int)) 70).toNat) hx Try.underlying22 info3 rfl rfl (by omega) (by omega)) rfl ?_; clear hA a; intro a hA
  refine S.appendI (k := 0) hA hM rfl (hsl3.mem hM) Try.underlying22 info3 rfl rfl rfl rfl rfl rfl (by first | (rw [take_min70, List.length_take]; unfold maxLen; omega) | (rw [take_min70, List.length_take]; show (0 + _) * 8 ≤ (140737488355328 : Nat); omega) | omega | (show (_ + 1) * 24 ≤ (140737488355328 : Nat); omega) | (unfold maxLen; omega)) (by first | (rw [take_min70, List.length_take]; unfold maxLen; omega) | (rw [take_min70, List.length_take]; show (0 + _) * 8 ≤ (140737488355328 : Nat); omega) | omega | (show (_ + 1) * 24 ≤ (140737488355328 : Nat); omega) | (unfold maxLen; omega)) rfl ?_; clear hA hM a; intro a4 c5 w2 hM a hA
  have hl6 : 0 + ((X.take ((min ((X.length : Int)) 70).toNat))).length = (((X.take ((min ((X.length : Int)) 70).toNat)))).length := by first | (simp; done) | simp only [List.length_append]
  rw [hl6, show (([] : List Int)).map (Value.int .i64) ++ ((X.take ((min ((X.length : Int)) 70).toNat))).map (Value.int .i64) = (((X.take ((min ((X.length : Int)) 70).toNat)))).map (Value.int .i64) by simp] at hM; rw [hl6] at hA; clear hl6
  replace hM : Mem _ _ [own 3 1 (.slice a4 ((((X.take ((min ((X.length : Int)) 70).toNat)))).length) c5) ((((X.take ((min ((X.length : Int)) 70).toNat)))).length) ((((X.take ((min ((X.length : Int)) 70).toNat)))).map (Value.int .i64))] _ := hM
  refine S.val hA (R.assign rfl) rfl ?_; clear hA a; intro a hA
  refine S.done ?_
  replace hA : St 10 [(2, _)] a := hA.sub ((.cons rfl .nil))
  refine Ends.ret1 Try.func39 Try.results39 hA rfl ?_
  rw [take_min70] at hM
  exact ⟨_, _, by rw [take_min70], hM⟩
set_option maxRecDepth 100000 in
set_option maxHeartbeats 400000 in
theorem copy05_own (i : Ins) (ax3 : Option Addr) (cx3 : Nat) (ax4 : Option Addr) (cx4 : Nat) (ax5 : Option Addr) (cx5 : Nat) (w : World) (hx3 : IntSl w (.slice ax3 i.wt.length cx3) i.wt) (hx4 : IntSl w (.slice ax4 i.vl.length cx4) i.vl) (hx5 : RowsV w (.slice ax5 i.cost.length cx5) i.cost) :
  Calls Try.prog 13 #[.agg #[.int .i64 i.kind, .int .i64 i.n, .int .i64 i.cap, .slice ax3 i.wt.length cx3, .slice ax4 i.vl.length cx4, .slice ax5 i.cost.length cx5]] w fun e w' => ∃ aw cw av cv ac cc rs, e = .returned (insA (cutI i) aw cw av cv ac cc rs) ∧ rs.map (·.Y) = (cutI i).cost ∧ Mem w nof [bundle (insL 3 22 (cutI i) aw cw av cv ac cc rs)] w' := by
 have hbs := Below.refl (B := w.heap.size) w
 have hl5 := hx5.lenB
 have hM := Mem.start w
 refine Calls.of_ends (vs := [.agg #[.int .i64 i.kind, .int .i64 i.n, .int .i64 i.cap, .slice ax3 i.wt.length cx3, .slice ax4 i.vl.length cx4, .slice ax5 i.cost.length cx5]]) Try.func13 rfl Try.ntmps13 rfl ?_
 intro a hA
 replace hA : St 41 [(0, _)] a := hA
 refine Ends.seq (Ends.region ?_)
 refine S.box hA hM rfl rfl ?_; clear hA hM a; intro b1 w1 hb2 hM a hA
 replace hM : Mem _ _ [pt b1 #[.int .i64 i.kind, .int .i64 i.n, .int .i64 i.cap, .slice ax3 i.wt.length cx3, .slice ax4 i.vl.length cx4, .slice ax5 i.cost.length cx5] 25] _ := hM
 refine S.alloc hA hM info25 rfl rfl ?_; clear hA hM a; intro b3 w2 hb4 hM a hA
 replace hM : Mem _ _ [pt b3 cz0 25, pt b1 #[.int .i64 i.kind, .int .i64 i.n, .int .i64 i.cap, .slice ax3 i.wt.length cx3, .slice ax4 i.vl.length cx4, .slice ax5 i.cost.length cx5] 25] _ := hM
 refine S.done ?_
 refine Ends.seq ?_
 refine Ends.drawn (Mem w nof [pt b3 cz0 25, pt b1 #[.int .i64 i.kind, .int .i64 i.n, .int .i64 i.cap, .slice ax3 i.wt.length cx3, .slice ax4 i.vl.length cx4, .slice ax5 i.cost.length cx5] 25]) (.cons (0, true) (.cons (1, true) (.cons (2, true) (.cons (3, true) (.cons (4, true) (.cons (5, true) (.cons (6, true) (.cons (7, true) (.cons (9, true) (.cons (10, true) (.fork 8 13 (.fork 11 13 (.cons (12, true) (.cons (13, false) (.cons (14, false) .nil))) (.cons (11, false) (.cons (12, true) (.cons (14, false) .nil)))) (.cons (8, false) (.cons (11, false) (.cons (12, true) (.cons (14, false) .nil))))))))))))))) 14 mixed (by kernel_rfl) (by kernel_rfl) (by kernel_rfl) hM.drew ?_
 replace hM := hM.drew
 refine D.valF hA rfl (fun _ => R.fieldAddr (q := 0) fi25_0 rfl rfl rfl) rfl ?_; clear hA a; intro a hA
 refine D.val hA rfl (by kernel_rfl) (fun _ hM => R.load sz3 rfl (hM.cell (k := 1) rfl rfl)) rfl ?_; clear hA a; intro a hA
 refine D.valF hA rfl (fun _ => R.fieldAddr (q := 1) fi25_1 rfl rfl rfl) rfl ?_; clear hA a; intro a hA
 refine D.val hA rfl (by kernel_rfl) (fun _ hM => R.load sz3 rfl (hM.cell (k := 1) rfl rfl)) rfl ?_; clear hA a; intro a hA
 refine D.valF hA rfl (fun _ => R.fieldAddr (q := 2) fi25_2 rfl rfl rfl) rfl ?_; clear hA a; intro a hA
 refine D.val hA rfl (by kernel_rfl) (fun _ hM => R.load sz3 rfl (hM.cell (k := 1) rfl rfl)) rfl ?_; clear hA a; intro a hA
 refine D.valF hA rfl (fun _ => R.fieldAddr (q := 3) fi25_3 rfl rfl rfl) rfl ?_; clear hA a; intro a hA
 refine D.val hA rfl (by kernel_rfl) (fun _ hM => R.load sz22 rfl (hM.cell (k := 1) rfl rfl)) rfl ?_; clear hA a; intro a hA
 refine D.valF hA rfl (fun _ => R.fieldAddr (q := 4) fi25_4 rfl rfl rfl) rfl ?_; clear hA a; intro a hA
 refine D.val hA rfl (by kernel_rfl) (fun _ hM => R.load sz22 rfl (hM.cell (k := 1) rfl rfl)) rfl ?_; clear hA a; intro a hA
 refine D.fork rfl rfl ?_ ?_
 ·
  refine D.call hA rfl (R.callF Try.func39 rfl rfl rfl) rfl (cut05 ax3 i.wt cx3 _ (hx3.mem hM)) ?_; clear hA a
  rintro e w3 ⟨ka5, kc6, rfl, hn⟩
  replace hM : Mem _ _ [own 3 1 (.slice ka5 (((i.wt.take 70)).length) kc6) (((i.wt.take 70)).length) (((i.wt.take 70)).map (Value.int .i64)), pt b3 cz0 25, pt b1 #[.int .i64 i.kind, .int .i64 i.n, .int .i64 i.cap, .slice ax3 i.wt.length cx3, .slice ax4 i.vl.length cx4, .slice ax5 i.cost.length cx5] 25] _ := hM.call hn; clear hn
  refine ⟨.slice ka5 ((i.wt.take 70).length) kc6, rfl, (hM.drop 0), fun a hA => ?_⟩
  refine D.fork rfl rfl ?_ ?_
  ·
   refine D.call hA rfl (R.callF Try.func39 rfl rfl rfl) rfl (cut05 ax4 i.vl cx4 _ (hx4.mem hM)) ?_; clear hA a
   rintro e w4 ⟨ka7, kc8, rfl, hn⟩
   replace hM : Mem _ _ [own 3 1 (.slice ka7 (((i.vl.take 70)).length) kc8) (((i.vl.take 70)).length) (((i.vl.take 70)).map (Value.int .i64)), own 3 1 (.slice ka5 (((i.wt.take 70)).length) kc6) (((i.wt.take 70)).length) (((i.wt.take 70)).map (Value.int .i64)), pt b3 cz0 25, pt b1 #[.int .i64 i.kind, .int .i64 i.n, .int .i64 i.cap, .slice ax3 i.wt.length cx3, .slice ax4 i.vl.length cx4, .slice ax5 i.cost.length cx5] 25] _ := hM.call hn; clear hn
   refine ⟨.slice ka7 ((i.vl.take 70).length) kc8, rfl, ((hM.drop 1).drop 0), fun a hA => ?_⟩
   refine D.valF hA rfl (fun _ => R.build (cells := #[.int .i64 i.kind, .int .i64 i.n, .int .i64 i.cap, .slice ka5 ((i.wt.take 70).length) kc6, .slice ka7 ((i.vl.take 70).length) kc8, .slice none 0 0]) rfl (by kernel_rfl)) rfl ?_; clear hA a; intro a hA
   refine D.alloc hA hM rfl info25 rfl rfl ?_; clear hA hM a; intro b9 w5 hb10 hM; refine ⟨(fun hM => ((hM.drop 1).drop 0)) hM.tail, fun a hA => ?_⟩
   replace hM : Mem _ _ [pt b9 cz0 25, own 3 1 (.slice ka7 (((i.vl.take 70)).length) kc8) (((i.vl.take 70)).length) (((i.vl.take 70)).map (Value.int .i64)), own 3 1 (.slice ka5 (((i.wt.take 70)).length) kc6) (((i.wt.take 70)).length) (((i.wt.take 70)).map (Value.int .i64)), pt b3 cz0 25, pt b1 #[.int .i64 i.kind, .int .i64 i.n, .int .i64 i.cap, .slice ax3 i.wt.length cx3, .slice ax4 i.vl.length cx4, .slice ax5 i.cost.length cx5] 25] _ := hM
   refine D.storeA (k := 0) hA hM rfl sz25 rfl rfl rfl rfl rfl rfl ?_; clear hM
   intro w6 hM; refine ⟨fun _ hne => absurd rfl hne, ?_⟩
   replace hM : Mem _ _ [pt b9 #[.int .i64 i.kind, .int .i64 i.n, .int .i64 i.cap, .slice ka5 ((i.wt.take 70).length) kc6, .slice ka7 ((i.vl.take 70).length) kc8, .slice none 0 0] 25, own 3 1 (.slice ka7 (((i.vl.take 70)).length) kc8) (((i.vl.take 70)).length) (((i.vl.take 70)).map (Value.int .i64)), own 3 1 (.slice ka5 (((i.wt.take 70)).length) kc6) (((i.wt.take 70)).length) (((i.wt.take 70)).map (Value.int .i64)), pt b3 cz0 25, pt b1 #[.int .i64 i.kind, .int .i64 i.n, .int .i64 i.cap, .slice ax3 i.wt.length cx3, .slice ax4 i.vl.length cx4, .slice ax5 i.cost.length cx5] 25] _ := hM
   refine D.done ?_
   replace hA : St 41 [(1, _), (2, _), (3, _)] a := hA.sub ((.cons rfl (.cons rfl (.cons rfl .nil))))
   refine Ends.seq (Ends.seq (Ends.region ?_))
   refine S.val hA (R.assign rfl) rfl ?_; clear hA a; intro a hA
   refine S.done ?_
   refine Ends.block ?_
   replace hM := (hM.bundleNil (e := 3)).ownNil 22 1
   replace hM := hM.front (k := 6) rfl
   replace hM := hM.front (k := 6) rfl
   replace hM := hM.front (k := 3) rfl
   replace hM := hM.front (k := 3) rfl
   replace hM := hM.front (k := 5) rfl
   replace hM := hM.front (k := 6) rfl
   replace hM := hM.front (k := 6) rfl
   replace hM : Mem _ _ [pt b9 #[.int .i64 i.kind, .int .i64 i.n, .int .i64 i.cap, .slice ka5 ((i.wt.take 70).length) kc6, .slice ka7 ((i.vl.take 70).length) kc8, .slice none (([] : List OwR).length) 0] 25, own 3 1 (.slice ka5 (((i.wt.take 70)).length) kc6) (((i.wt.take 70)).length) (((i.wt.take 70)).map (Value.int .i64)), own 3 1 (.slice ka7 (((i.vl.take 70)).length) kc8) (((i.vl.take 70)).length) (((i.vl.take 70)).map (Value.int .i64)), own 22 1 (.slice none (([] : List OwR).length) 0) (([] : List OwR).length) ((([] : List OwR).map orV)), bundle (([] : List OwR).map (orC 3)), pt b3 cz0 25, pt b1 #[.int .i64 i.kind, .int .i64 i.n, .int .i64 i.cap, .slice ax3 i.wt.length cx3, .slice ax4 i.vl.length cx4, .slice ax5 i.cost.length cx5] 25] _ := hM
   refine Ends.loop (σ := Nat × Option Addr × Nat × List OwR) (fun (k, ao, co, rs) (a : Act) (wv : World) => St 41 [(1, .pointer (some ⟨b1, 0, none⟩)), (2, .pointer (some ⟨b3, 0, none⟩)), (3, .pointer (some ⟨b9, 0, none⟩)), (4, .int .i64 ((k : Int)))] a ∧ Mem w nof [pt b9 #[.int .i64 i.kind, .int .i64 i.n, .int .i64 i.cap, .slice ka5 ((i.wt.take 70).length) kc6, .slice ka7 ((i.vl.take 70).length) kc8, .slice ao rs.length co] 25, own 3 1 (.slice ka5 (((i.wt.take 70)).length) kc6) (((i.wt.take 70)).length) (((i.wt.take 70)).map (Value.int .i64)), own 3 1 (.slice ka7 (((i.vl.take 70)).length) kc8) (((i.vl.take 70)).length) (((i.vl.take 70)).map (Value.int .i64)), own 22 1 (.slice ao rs.length co) rs.length ((rs.map orV)), bundle (rs.map (orC 3)), pt b3 cz0 25, pt b1 #[.int .i64 i.kind, .int .i64 i.n, .int .i64 i.cap, .slice ax3 i.wt.length cx3, .slice ax4 i.vl.length cx4, .slice ax5 i.cost.length cx5] 25] wv ∧ (k ≤ i.cost.length ∧ k ≤ 30) ∧ (rs.map (·.Y) = (i.cost.take k).map (fun r => r.take 70))) (fun (k, ao, co, rs) => 30 - k) ((0, none, 0, [])) ⟨hA.sub ((.cons rfl (.cons rfl (.cons rfl (.cons rfl .nil))))), hM, (by omega), rfl⟩ ?_
   clear hA hM a
   rintro ⟨k, ao, co, rs⟩ a w7 ⟨hA, hM, hk, hY⟩ hNext
   refine Ends.seq (Ends.seq ?_)
   refine Ends.cut (fun (a : Act) (wv : World) => St 41 [(1, .pointer (some ⟨b1, 0, none⟩)), (2, .pointer (some ⟨b3, 0, none⟩)), (3, .pointer (some ⟨b9, 0, none⟩)), (4, .int .i64 ((k : Int))), (26, .bool (decide ((((k : Int)) < ((i.cost.length : Int)) ∧ ((k : Int)) < 30))))] a ∧ Mem w nof [pt b9 #[.int .i64 i.kind, .int .i64 i.n, .int .i64 i.cap, .slice ka5 ((i.wt.take 70).length) kc6, .slice ka7 ((i.vl.take 70).length) kc8, .slice ao rs.length co] 25, own 3 1 (.slice ka5 (((i.wt.take 70)).length) kc6) (((i.wt.take 70)).length) (((i.wt.take 70)).map (Value.int .i64)), own 3 1 (.slice ka7 (((i.vl.take 70)).length) kc8) (((i.vl.take 70)).length) (((i.vl.take 70)).map (Value.int .i64)), own 22 1 (.slice ao rs.length co) rs.length ((rs.map orV)), bundle (rs.map (orC 3)), pt b3 cz0 25, pt b1 #[.int .i64 i.kind, .int .i64 i.n, .int .i64 i.cap, .slice ax3 i.wt.length cx3, .slice ax4 i.vl.length cx4, .slice ax5 i.cost.length cx5] 25] wv) ?_ (fun k2 hJ => ?_)
   ·
    clear hA hM a; rintro a w8 ⟨hA, hM⟩
    refine Ends.ite hA rfl (fun hc11 => ?_) (fun hc11 => ?_)
    ·
     have hlr : rs.length = k := by have := congrArg List.length hY; simpa [List.length_take, Nat.min_eq_left hk.1] using this
     refine Ends.skip (Ends.seq (Ends.block ?_))
     refine Ends.drawn (Mem w nof [pt b9 #[.int .i64 i.kind, .int .i64 i.n, .int .i64 i.cap, .slice ka5 ((i.wt.take 70).length) kc6, .slice ka7 ((i.vl.take 70).length) kc8, .slice ao rs.length co] 25, pt b3 cz0 25, pt b1 #[.int .i64 i.kind, .int .i64 i.n, .int .i64 i.cap, .slice ax3 i.wt.length cx3, .slice ax4 i.vl.length cx4, .slice ax5 i.cost.length cx5] 25]) (.cons (0, true) (.cons (1, true) (.cons (2, true) (.cons (3, true) (.cons (4, true) (.cons (5, true) (.cons (6, true) (.cons (7, false) (.cons (8, false) (.cons (9, false) (.cons (10, true) (.cons (11, false) .nil)))))))))))) 11 mixed (by kernel_rfl) (by kernel_rfl) (by kernel_rfl) ((((hM.drop 4).drop 3).drop 2).drop 1).drew ?_
     replace hM := hM.drew
     refine D.valF hA rfl (fun _ => R.fieldAddr (q := 5) fi25_5 rfl rfl rfl) rfl ?_; clear hA a; intro a hA
     refine D.val hA rfl (by kernel_rfl) (fun _ hM => R.load sz23 rfl (hM.cell (k := 0) rfl rfl)) rfl ?_; clear hA a; intro a hA
     refine D.valF hA rfl (fun _ => R.fieldAddr (q := 5) fi25_5 rfl rfl rfl) rfl ?_; clear hA a; intro a hA
     refine D.val hA rfl (by kernel_rfl) (fun _ hM => R.load sz23 rfl (hM.cell (k := 2) rfl rfl)) rfl ?_; clear hA a; intro a hA
     refine D.valF hA rfl (fun _ => R.move rfl) rfl ?_; clear hA a; intro a hA
     refine D.valF hA rfl (fun _ => R.idxR hx5 (j := k) sl23 rfl rfl (by omega) (rfl)) rfl ?_; clear hA a; intro a hA
     obtain ⟨ra12, rc13, hrow14, hld15⟩ := hx5.atP (i := k) (by omega)
     refine D.val hA rfl (by kernel_rfl) (fun _ hM => hld15 _ _ _ _ _ _ hM sz22 rfl) rfl ?_; clear hA a; intro a hA
     refine D.call hA rfl (R.callF Try.func39 rfl rfl rfl) rfl (cut05 ra12 ((i.cost.getD k [])) rc13 _ (hrow14.mem hM)) ?_; clear hA a
     rintro e w9 ⟨ka16, kc17, rfl, hn⟩
     replace hM : Mem _ _ [own 3 1 (.slice ka16 (((((i.cost.getD k [])).take 70)).length) kc17) (((((i.cost.getD k [])).take 70)).length) (((((i.cost.getD k [])).take 70)).map (Value.int .i64)), pt b9 #[.int .i64 i.kind, .int .i64 i.n, .int .i64 i.cap, .slice ka5 ((i.wt.take 70).length) kc6, .slice ka7 ((i.vl.take 70).length) kc8, .slice ao rs.length co] 25, own 3 1 (.slice ka5 (((i.wt.take 70)).length) kc6) (((i.wt.take 70)).length) (((i.wt.take 70)).map (Value.int .i64)), own 3 1 (.slice ka7 (((i.vl.take 70)).length) kc8) (((i.vl.take 70)).length) (((i.vl.take 70)).map (Value.int .i64)), own 22 1 (.slice ao rs.length co) rs.length ((rs.map orV)), bundle (rs.map (orC 3)), pt b3 cz0 25, pt b1 #[.int .i64 i.kind, .int .i64 i.n, .int .i64 i.cap, .slice ax3 i.wt.length cx3, .slice ax4 i.vl.length cx4, .slice ax5 i.cost.length cx5] 25] _ := hM.call hn; clear hn
     refine ⟨.slice ka16 ((((i.cost.getD k [])).take 70).length) kc17, rfl, (((((hM.drop 5).drop 4).drop 3).drop 2).drop 0), fun a hA => ?_⟩
     refine D.buildSl (cells := #[.slice ka16 ((((i.cost.getD k [])).take 70).length) kc17]) hA hM rfl Try.underlying23 info22 rfl rfl rfl rfl (by kernel_rfl) rfl ?_; clear hA hM a; intro b18 w10 hb19 hM; refine ⟨(fun hM => (((((hM.drop 5).drop 4).drop 3).drop 2).drop 0)) hM.tail, fun a hA => ?_⟩
     replace hM : Mem _ _ [pt b18 #[.slice ka16 ((((i.cost.getD k [])).take 70).length) kc17] 22, own 3 1 (.slice ka16 (((((i.cost.getD k [])).take 70)).length) kc17) (((((i.cost.getD k [])).take 70)).length) (((((i.cost.getD k [])).take 70)).map (Value.int .i64)), pt b9 #[.int .i64 i.kind, .int .i64 i.n, .int .i64 i.cap, .slice ka5 ((i.wt.take 70).length) kc6, .slice ka7 ((i.vl.take 70).length) kc8, .slice ao rs.length co] 25, own 3 1 (.slice ka5 (((i.wt.take 70)).length) kc6) (((i.wt.take 70)).length) (((i.wt.take 70)).map (Value.int .i64)), own 3 1 (.slice ka7 (((i.vl.take 70)).length) kc8) (((i.vl.take 70)).length) (((i.vl.take 70)).map (Value.int .i64)), own 22 1 (.slice ao rs.length co) rs.length ((rs.map orV)), bundle (rs.map (orC 3)), pt b3 cz0 25, pt b1 #[.int .i64 i.kind, .int .i64 i.n, .int .i64 i.cap, .slice ax3 i.wt.length cx3, .slice ax4 i.vl.length cx4, .slice ax5 i.cost.length cx5] 25] _ := hM
     refine D.append (k := 5) (k2 := 0) hA hM rfl rfl rfl Try.underlying23 info22 rfl rfl rfl rfl rfl rfl rfl rfl rfl (by first | (rw [take_min70, List.length_take]; unfold maxLen; omega) | (rw [take_min70, List.length_take]; show (0 + _) * 8 ≤ (140737488355328 : Nat); omega) | omega | (show (_ + 1) * 24 ≤ (140737488355328 : Nat); omega) | (unfold maxLen; omega)) (by first | (rw [take_min70, List.length_take]; unfold maxLen; omega) | (rw [take_min70, List.length_take]; show (0 + _) * 8 ≤ (140737488355328 : Nat); omega) | omega | (show (_ + 1) * 24 ≤ (140737488355328 : Nat); omega) | (unfold maxLen; omega)) rfl ?_; clear hA hM a; intro a20 c21 w11 hM
     replace hM : Mem _ _ [pt b18 #[.slice ka16 ((((i.cost.getD k [])).take 70).length) kc17] 22, own 3 1 (.slice ka16 (((((i.cost.getD k [])).take 70)).length) kc17) (((((i.cost.getD k [])).take 70)).length) (((((i.cost.getD k [])).take 70)).map (Value.int .i64)), pt b9 #[.int .i64 i.kind, .int .i64 i.n, .int .i64 i.cap, .slice ka5 ((i.wt.take 70).length) kc6, .slice ka7 ((i.vl.take 70).length) kc8, .slice ao rs.length co] 25, own 3 1 (.slice ka5 (((i.wt.take 70)).length) kc6) (((i.wt.take 70)).length) (((i.wt.take 70)).map (Value.int .i64)), own 3 1 (.slice ka7 (((i.vl.take 70)).length) kc8) (((i.vl.take 70)).length) (((i.vl.take 70)).map (Value.int .i64)), own 22 1 (.slice a20 (rs.length + 1) c21) (rs.length + 1) (((rs.map orV) ++ [.slice ka16 ((((i.cost.getD k [])).take 70).length) kc17])), bundle (rs.map (orC 3)), pt b3 cz0 25, pt b1 #[.int .i64 i.kind, .int .i64 i.n, .int .i64 i.cap, .slice ax3 i.wt.length cx3, .slice ax4 i.vl.length cx4, .slice ax5 i.cost.length cx5] 25] _ := hM
     replace hM := hM.drop 0
     replace hM : Mem _ _ [own 3 1 (.slice ka16 (((((i.cost.getD k [])).take 70)).length) kc17) (((((i.cost.getD k [])).take 70)).length) (((((i.cost.getD k [])).take 70)).map (Value.int .i64)), pt b9 #[.int .i64 i.kind, .int .i64 i.n, .int .i64 i.cap, .slice ka5 ((i.wt.take 70).length) kc6, .slice ka7 ((i.vl.take 70).length) kc8, .slice ao rs.length co] 25, own 3 1 (.slice ka5 (((i.wt.take 70)).length) kc6) (((i.wt.take 70)).length) (((i.wt.take 70)).map (Value.int .i64)), own 3 1 (.slice ka7 (((i.vl.take 70)).length) kc8) (((i.vl.take 70)).length) (((i.vl.take 70)).map (Value.int .i64)), own 22 1 (.slice a20 (rs.length + 1) c21) (rs.length + 1) (((rs.map orV) ++ [.slice ka16 ((((i.cost.getD k [])).take 70).length) kc17])), bundle (rs.map (orC 3)), pt b3 cz0 25, pt b1 #[.int .i64 i.kind, .int .i64 i.n, .int .i64 i.cap, .slice ax3 i.wt.length cx3, .slice ax4 i.vl.length cx4, .slice ax5 i.cost.length cx5] 25] _ := hM
     refine ⟨(((((hM.drop 5).drop 4).drop 3).drop 2).drop 0), fun a hA => ?_⟩
     refine D.valF hA rfl (fun _ => R.fieldAddr (q := 5) fi25_5 rfl rfl rfl) rfl ?_; clear hA a; intro a hA
     refine D.store (k := 1) hA hM rfl sz23 rfl rfl rfl rfl rfl ?_; clear hM
     intro w12 hM; refine ⟨fun _ hne => absurd rfl hne, ?_⟩
     replace hM : Mem _ _ [own 3 1 (.slice ka16 (((((i.cost.getD k [])).take 70)).length) kc17) (((((i.cost.getD k [])).take 70)).length) (((((i.cost.getD k [])).take 70)).map (Value.int .i64)), pt b9 #[.int .i64 i.kind, .int .i64 i.n, .int .i64 i.cap, .slice ka5 ((i.wt.take 70).length) kc6, .slice ka7 ((i.vl.take 70).length) kc8, .slice a20 (rs.length + 1) c21] 25, own 3 1 (.slice ka5 (((i.wt.take 70)).length) kc6) (((i.wt.take 70)).length) (((i.wt.take 70)).map (Value.int .i64)), own 3 1 (.slice ka7 (((i.vl.take 70)).length) kc8) (((i.vl.take 70)).length) (((i.vl.take 70)).map (Value.int .i64)), own 22 1 (.slice a20 (rs.length + 1) c21) (rs.length + 1) (((rs.map orV) ++ [.slice ka16 ((((i.cost.getD k [])).take 70).length) kc17])), bundle (rs.map (orC 3)), pt b3 cz0 25, pt b1 #[.int .i64 i.kind, .int .i64 i.n, .int .i64 i.cap, .slice ax3 i.wt.length cx3, .slice ax4 i.vl.length cx4, .slice ax5 i.cost.length cx5] 25] _ := hM
     refine D.done ?_
     replace hA : St 41 [(1, _), (2, _), (3, _), (4, _)] a := hA.sub ((.cons rfl (.cons rfl (.cons rfl (.cons rfl .nil)))))
     refine Ends.inBlock (Ends.region ?_)
     refine S.val hA (R.move rfl) rfl ?_; clear hA a; intro a hA
     refine S.val hA (R.addI rfl rfl (r := ((k : Int)) + 1) rfl (by omega)) rfl ?_; clear hA a; intro a hA
     refine S.val hA (R.assign rfl) rfl ?_; clear hA a; intro a hA
     refine S.done ?_
     rw [show (Value.slice ka16 ((((i.cost.getD k [])).take 70)).length kc17) = orV (⟨(((i.cost.getD k [])).take 70), ka16, kc17⟩ : OwR) from rfl, orV_snoc', len_snoc' rs (⟨(((i.cost.getD k [])).take 70), ka16, kc17⟩ : OwR)] at hM
     replace hM := hM.front (k := 5) rfl
     replace hM := hM.front (k := 1) rfl
     replace hM := (hM.ownOrC).bundleSnoc
     replace hM := hM.front (k := 6) rfl
     replace hM := hM.front (k := 6) rfl
     replace hM := hM.front (k := 2) rfl
     replace hM := hM.front (k := 6) rfl
     replace hM := hM.front (k := 6) rfl
     replace hM := hM.front (k := 6) rfl
     replace hM := hM.front (k := 6) rfl
     replace hM := hM.firstN 7
     exact hNext ((k + 1, a20, c21, rs ++ [(⟨(((i.cost.getD k [])).take 70), ka16, kc17⟩ : OwR)])) _ _ ((by show 30 - (k + 1) < 30 - k; omega)) ⟨hA.sub ((.cons rfl (.cons rfl (.cons rfl (.cons rfl .nil))))), hM, (by omega), (by rw [List.map_append, hY, takeR_snoc (show k < i.cost.length by omega)]; rfl)⟩
    ·
     have hlr : (i.cost.take 30).map (fun r => r.take 70) = (i.cost.take k).map (fun r => r.take 70) := by
      by_cases h9 : k = 30
      · rw [h9]
      · rw [List.take_of_length_le (show i.cost.length ≤ 30 by omega), List.take_of_length_le (show i.cost.length ≤ k by omega)]
     refine Ends.exit rfl ?_
     refine Ends.seq (Ends.region ?_)
     refine S.val hA (R.loadA sz25 rfl (hM.range (k := 0) rfl) rfl) rfl ?_; clear hA a; intro a hA
     refine S.storeA (k := 5) hA hM sz25 rfl rfl rfl rfl rfl rfl ?_; clear hM
     intro w13 hM
     replace hM : Mem _ _ [pt b9 #[.int .i64 i.kind, .int .i64 i.n, .int .i64 i.cap, .slice ka5 ((i.wt.take 70).length) kc6, .slice ka7 ((i.vl.take 70).length) kc8, .slice ao rs.length co] 25, own 3 1 (.slice ka5 (((i.wt.take 70)).length) kc6) (((i.wt.take 70)).length) (((i.wt.take 70)).map (Value.int .i64)), own 3 1 (.slice ka7 (((i.vl.take 70)).length) kc8) (((i.vl.take 70)).length) (((i.vl.take 70)).map (Value.int .i64)), own 22 1 (.slice ao rs.length co) rs.length ((rs.map orV)), bundle (rs.map (orC 3)), pt b3 #[.int .i64 i.kind, .int .i64 i.n, .int .i64 i.cap, .slice ka5 ((i.wt.take 70).length) kc6, .slice ka7 ((i.vl.take 70).length) kc8, .slice ao rs.length co] 25, pt b1 #[.int .i64 i.kind, .int .i64 i.n, .int .i64 i.cap, .slice ax3 i.wt.length cx3, .slice ax4 i.vl.length cx4, .slice ax5 i.cost.length cx5] 25] _ := hM
     refine S.done ?_
     replace hA : St 41 [(2, _)] a := hA.sub ((.cons rfl .nil))
     refine Ends.retC (k := 5) Try.func13 Try.results13 hA hM rfl rfl sz25 rfl ?_
     replace hM := hM.front (k := 4) rfl
     replace hM := hM.front (k := 4) rfl
     replace hM := hM.front (k := 4) rfl
     replace hM := hM.front (k := 4) rfl
     replace hM := hM.firstN 4
     exact ⟨ka5, kc6, ka7, kc8, ao, co, rs, rfl, by rw [hY, ← hlr]; rfl, Mem.pack (cs := insL 3 22 (cutI i) ka5 kc6 ka7 kc8 ao co rs) (L := []) hM⟩
   ·
    refine Ends.region ?_
    refine S.val hA (R.move rfl) rfl ?_; clear hA a; intro a hA
    refine S.val hA (R.fieldAddr (q := 5) fi25_5 rfl rfl rfl) rfl ?_; clear hA a; intro a hA
    refine S.val hA (R.load sz23 rfl (hM.cell (k := 6) rfl rfl)) rfl ?_; clear hA a; intro a hA
    refine S.val hA (R.lenS Try.underlying23 rfl rfl) rfl ?_; clear hA a; intro a hA
    refine S.val hA (R.lss rfl rfl) rfl ?_; clear hA a; intro a hA
    refine S.val hA (R.move rfl) rfl ?_; clear hA a; intro a hA
    refine hA.split (d := 23) rfl ?_ ?_
    ·
     clear hA; intro hg22 hA
     refine S.valg (dj := 23) hA (by kernel_rfl) rfl (R.move rfl) rfl ?_; clear hA a; intro a hA
     refine S.valg (dj := 23) hA (by kernel_rfl) rfl (R.lss rfl rfl) rfl ?_; clear hA a; intro a hA
     refine S.val hA (R.pickT rfl rfl) rfl ?_; clear hA a; intro a hA
     refine S.done ?_
     replace hA : St 41 [(1, _), (2, _), (3, _), (4, _), (26, _)] a := hA.sub ((.cons rfl (.cons rfl (.cons rfl (.cons rfl (.cons rfl .nil))))))
     exact hJ _ _ ⟨hA.sub (.cons rfl (.cons rfl (.cons rfl (.cons rfl (.cons (by first | rfl | exact congrArg (fun b => some (Value.bool b)) (by first | exact decide_eq_decide.2 (by omega) | exact or_bool (by omega) | exact and_bool (by omega) | (simp; done) | (simp [hg22]; done) | (have h80 := hg22; (try simp at h80); simp [h80]; done) | exact (decide_eq_false (fun h9 => hg22 h9.1)).symm)) .nil))))), hM⟩
    ·
     clear hA; intro hg22 hA
     refine S.no (dj := 23) hA (by kernel_rfl) rfl rfl rfl ?_; clear hA a; intro a hA
     refine S.no (dj := 23) hA (by kernel_rfl) rfl rfl rfl ?_; clear hA a; intro a hA
     refine S.val hA (R.pickF rfl rfl) rfl ?_; clear hA a; intro a hA
     refine S.done ?_
     replace hA : St 41 [(1, _), (2, _), (3, _), (4, _), (26, _)] a := hA.sub ((.cons rfl (.cons rfl (.cons rfl (.cons rfl (.cons rfl .nil))))))
     exact hJ _ _ ⟨hA.sub (.cons rfl (.cons rfl (.cons rfl (.cons rfl (.cons (by first | rfl | exact congrArg (fun b => some (Value.bool b)) (by first | exact decide_eq_decide.2 (by omega) | exact or_bool (by omega) | exact and_bool (by omega) | (simp; done) | (simp [hg22]; done) | (have h80 := hg22; (try simp at h80); simp [h80]; done) | exact (decide_eq_false (fun h9 => hg22 h9.1)).symm)) .nil))))), hM⟩
  ·
   refine D.alloc hA hM rfl info25 rfl rfl ?_; clear hA hM a; intro b23 w14 hb24 hM; refine ⟨(fun hM => (hM.drop 0)) hM.tail, fun a hA => ?_⟩
   replace hM : Mem _ _ [pt b23 cz0 25, own 3 1 (.slice ka5 (((i.wt.take 70)).length) kc6) (((i.wt.take 70)).length) (((i.wt.take 70)).map (Value.int .i64)), pt b3 cz0 25, pt b1 #[.int .i64 i.kind, .int .i64 i.n, .int .i64 i.cap, .slice ax3 i.wt.length cx3, .slice ax4 i.vl.length cx4, .slice ax5 i.cost.length cx5] 25] _ := hM
   refine D.call hA rfl (R.callF Try.func39 rfl rfl rfl) rfl (cut05 ax4 i.vl cx4 _ (hx4.mem hM)) ?_; clear hA a
   rintro e w15 ⟨ka25, kc26, rfl, hn⟩
   replace hM : Mem _ _ [own 3 1 (.slice ka25 (((i.vl.take 70)).length) kc26) (((i.vl.take 70)).length) (((i.vl.take 70)).map (Value.int .i64)), pt b23 cz0 25, own 3 1 (.slice ka5 (((i.wt.take 70)).length) kc6) (((i.wt.take 70)).length) (((i.wt.take 70)).map (Value.int .i64)), pt b3 cz0 25, pt b1 #[.int .i64 i.kind, .int .i64 i.n, .int .i64 i.cap, .slice ax3 i.wt.length cx3, .slice ax4 i.vl.length cx4, .slice ax5 i.cost.length cx5] 25] _ := hM.call hn; clear hn
   refine ⟨.slice ka25 ((i.vl.take 70).length) kc26, rfl, (((hM.drop 2).drop 1).drop 0), fun a hA => ?_⟩
   refine D.valF hA rfl (fun _ => R.build (cells := #[.int .i64 i.kind, .int .i64 i.n, .int .i64 i.cap, .slice ka5 ((i.wt.take 70).length) kc6, .slice ka25 ((i.vl.take 70).length) kc26, .slice none 0 0]) rfl (by kernel_rfl)) rfl ?_; clear hA a; intro a hA
   refine D.storeA (k := 1) hA hM rfl sz25 rfl rfl rfl rfl rfl rfl ?_; clear hM
   intro w16 hM; refine ⟨fun _ hne => absurd rfl hne, ?_⟩
   replace hM : Mem _ _ [own 3 1 (.slice ka25 (((i.vl.take 70)).length) kc26) (((i.vl.take 70)).length) (((i.vl.take 70)).map (Value.int .i64)), pt b23 #[.int .i64 i.kind, .int .i64 i.n, .int .i64 i.cap, .slice ka5 ((i.wt.take 70).length) kc6, .slice ka25 ((i.vl.take 70).length) kc26, .slice none 0 0] 25, own 3 1 (.slice ka5 (((i.wt.take 70)).length) kc6) (((i.wt.take 70)).length) (((i.wt.take 70)).map (Value.int .i64)), pt b3 cz0 25, pt b1 #[.int .i64 i.kind, .int .i64 i.n, .int .i64 i.cap, .slice ax3 i.wt.length cx3, .slice ax4 i.vl.length cx4, .slice ax5 i.cost.length cx5] 25] _ := hM
   refine D.done ?_
   replace hA : St 41 [(1, _), (2, _), (3, _)] a := hA.sub ((.cons rfl (.cons rfl (.cons rfl .nil))))
   refine Ends.seq (Ends.seq (Ends.region ?_))
   refine S.val hA (R.assign rfl) rfl ?_; clear hA a; intro a hA
   refine S.done ?_
   refine Ends.block ?_
   replace hM := (hM.bundleNil (e := 3)).ownNil 22 1
   replace hM := hM.front (k := 6) rfl
   replace hM := hM.front (k := 6) rfl
   replace hM := hM.front (k := 3) rfl
   replace hM := hM.front (k := 3) rfl
   replace hM := hM.front (k := 4) rfl
   replace hM := hM.front (k := 6) rfl
   replace hM := hM.front (k := 6) rfl
   replace hM : Mem _ _ [pt b23 #[.int .i64 i.kind, .int .i64 i.n, .int .i64 i.cap, .slice ka5 ((i.wt.take 70).length) kc6, .slice ka25 ((i.vl.take 70).length) kc26, .slice none (([] : List OwR).length) 0] 25, own 3 1 (.slice ka5 (((i.wt.take 70)).length) kc6) (((i.wt.take 70)).length) (((i.wt.take 70)).map (Value.int .i64)), own 3 1 (.slice ka25 (((i.vl.take 70)).length) kc26) (((i.vl.take 70)).length) (((i.vl.take 70)).map (Value.int .i64)), own 22 1 (.slice none (([] : List OwR).length) 0) (([] : List OwR).length) ((([] : List OwR).map orV)), bundle (([] : List OwR).map (orC 3)), pt b3 cz0 25, pt b1 #[.int .i64 i.kind, .int .i64 i.n, .int .i64 i.cap, .slice ax3 i.wt.length cx3, .slice ax4 i.vl.length cx4, .slice ax5 i.cost.length cx5] 25] _ := hM
   refine Ends.loop (σ := Nat × Option Addr × Nat × List OwR) (fun (k, ao, co, rs) (a : Act) (wv : World) => St 41 [(1, .pointer (some ⟨b1, 0, none⟩)), (2, .pointer (some ⟨b3, 0, none⟩)), (3, .pointer (some ⟨b23, 0, none⟩)), (4, .int .i64 ((k : Int)))] a ∧ Mem w nof [pt b23 #[.int .i64 i.kind, .int .i64 i.n, .int .i64 i.cap, .slice ka5 ((i.wt.take 70).length) kc6, .slice ka25 ((i.vl.take 70).length) kc26, .slice ao rs.length co] 25, own 3 1 (.slice ka5 (((i.wt.take 70)).length) kc6) (((i.wt.take 70)).length) (((i.wt.take 70)).map (Value.int .i64)), own 3 1 (.slice ka25 (((i.vl.take 70)).length) kc26) (((i.vl.take 70)).length) (((i.vl.take 70)).map (Value.int .i64)), own 22 1 (.slice ao rs.length co) rs.length ((rs.map orV)), bundle (rs.map (orC 3)), pt b3 cz0 25, pt b1 #[.int .i64 i.kind, .int .i64 i.n, .int .i64 i.cap, .slice ax3 i.wt.length cx3, .slice ax4 i.vl.length cx4, .slice ax5 i.cost.length cx5] 25] wv ∧ (k ≤ i.cost.length ∧ k ≤ 30) ∧ (rs.map (·.Y) = (i.cost.take k).map (fun r => r.take 70))) (fun (k, ao, co, rs) => 30 - k) ((0, none, 0, [])) ⟨hA.sub ((.cons rfl (.cons rfl (.cons rfl (.cons rfl .nil))))), hM, (by omega), rfl⟩ ?_
   clear hA hM a
   rintro ⟨k, ao, co, rs⟩ a w17 ⟨hA, hM, hk, hY⟩ hNext
   refine Ends.seq (Ends.seq ?_)
   refine Ends.cut (fun (a : Act) (wv : World) => St 41 [(1, .pointer (some ⟨b1, 0, none⟩)), (2, .pointer (some ⟨b3, 0, none⟩)), (3, .pointer (some ⟨b23, 0, none⟩)), (4, .int .i64 ((k : Int))), (26, .bool (decide ((((k : Int)) < ((i.cost.length : Int)) ∧ ((k : Int)) < 30))))] a ∧ Mem w nof [pt b23 #[.int .i64 i.kind, .int .i64 i.n, .int .i64 i.cap, .slice ka5 ((i.wt.take 70).length) kc6, .slice ka25 ((i.vl.take 70).length) kc26, .slice ao rs.length co] 25, own 3 1 (.slice ka5 (((i.wt.take 70)).length) kc6) (((i.wt.take 70)).length) (((i.wt.take 70)).map (Value.int .i64)), own 3 1 (.slice ka25 (((i.vl.take 70)).length) kc26) (((i.vl.take 70)).length) (((i.vl.take 70)).map (Value.int .i64)), own 22 1 (.slice ao rs.length co) rs.length ((rs.map orV)), bundle (rs.map (orC 3)), pt b3 cz0 25, pt b1 #[.int .i64 i.kind, .int .i64 i.n, .int .i64 i.cap, .slice ax3 i.wt.length cx3, .slice ax4 i.vl.length cx4, .slice ax5 i.cost.length cx5] 25] wv) ?_ (fun k2 hJ => ?_)
   ·
    clear hA hM a; rintro a w18 ⟨hA, hM⟩
    refine Ends.ite hA rfl (fun hc27 => ?_) (fun hc27 => ?_)
    ·
     have hlr : rs.length = k := by have := congrArg List.length hY; simpa [List.length_take, Nat.min_eq_left hk.1] using this
     refine Ends.skip (Ends.seq (Ends.block ?_))
     refine Ends.drawn (Mem w nof [pt b23 #[.int .i64 i.kind, .int .i64 i.n, .int .i64 i.cap, .slice ka5 ((i.wt.take 70).length) kc6, .slice ka25 ((i.vl.take 70).length) kc26, .slice ao rs.length co] 25, pt b3 cz0 25, pt b1 #[.int .i64 i.kind, .int .i64 i.n, .int .i64 i.cap, .slice ax3 i.wt.length cx3, .slice ax4 i.vl.length cx4, .slice ax5 i.cost.length cx5] 25]) (.cons (0, true) (.cons (1, true) (.cons (2, true) (.cons (3, true) (.cons (4, true) (.cons (5, true) (.cons (6, true) (.cons (7, false) (.cons (8, false) (.cons (9, false) (.cons (10, true) (.cons (11, false) .nil)))))))))))) 11 mixed (by kernel_rfl) (by kernel_rfl) (by kernel_rfl) ((((hM.drop 4).drop 3).drop 2).drop 1).drew ?_
     replace hM := hM.drew
     refine D.valF hA rfl (fun _ => R.fieldAddr (q := 5) fi25_5 rfl rfl rfl) rfl ?_; clear hA a; intro a hA
     refine D.val hA rfl (by kernel_rfl) (fun _ hM => R.load sz23 rfl (hM.cell (k := 0) rfl rfl)) rfl ?_; clear hA a; intro a hA
     refine D.valF hA rfl (fun _ => R.fieldAddr (q := 5) fi25_5 rfl rfl rfl) rfl ?_; clear hA a; intro a hA
     refine D.val hA rfl (by kernel_rfl) (fun _ hM => R.load sz23 rfl (hM.cell (k := 2) rfl rfl)) rfl ?_; clear hA a; intro a hA
     refine D.valF hA rfl (fun _ => R.move rfl) rfl ?_; clear hA a; intro a hA
     refine D.valF hA rfl (fun _ => R.idxR hx5 (j := k) sl23 rfl rfl (by omega) (rfl)) rfl ?_; clear hA a; intro a hA
     obtain ⟨ra28, rc29, hrow30, hld31⟩ := hx5.atP (i := k) (by omega)
     refine D.val hA rfl (by kernel_rfl) (fun _ hM => hld31 _ _ _ _ _ _ hM sz22 rfl) rfl ?_; clear hA a; intro a hA
     refine D.call hA rfl (R.callF Try.func39 rfl rfl rfl) rfl (cut05 ra28 ((i.cost.getD k [])) rc29 _ (hrow30.mem hM)) ?_; clear hA a
     rintro e w19 ⟨ka32, kc33, rfl, hn⟩
     replace hM : Mem _ _ [own 3 1 (.slice ka32 (((((i.cost.getD k [])).take 70)).length) kc33) (((((i.cost.getD k [])).take 70)).length) (((((i.cost.getD k [])).take 70)).map (Value.int .i64)), pt b23 #[.int .i64 i.kind, .int .i64 i.n, .int .i64 i.cap, .slice ka5 ((i.wt.take 70).length) kc6, .slice ka25 ((i.vl.take 70).length) kc26, .slice ao rs.length co] 25, own 3 1 (.slice ka5 (((i.wt.take 70)).length) kc6) (((i.wt.take 70)).length) (((i.wt.take 70)).map (Value.int .i64)), own 3 1 (.slice ka25 (((i.vl.take 70)).length) kc26) (((i.vl.take 70)).length) (((i.vl.take 70)).map (Value.int .i64)), own 22 1 (.slice ao rs.length co) rs.length ((rs.map orV)), bundle (rs.map (orC 3)), pt b3 cz0 25, pt b1 #[.int .i64 i.kind, .int .i64 i.n, .int .i64 i.cap, .slice ax3 i.wt.length cx3, .slice ax4 i.vl.length cx4, .slice ax5 i.cost.length cx5] 25] _ := hM.call hn; clear hn
     refine ⟨.slice ka32 ((((i.cost.getD k [])).take 70).length) kc33, rfl, (((((hM.drop 5).drop 4).drop 3).drop 2).drop 0), fun a hA => ?_⟩
     refine D.buildSl (cells := #[.slice ka32 ((((i.cost.getD k [])).take 70).length) kc33]) hA hM rfl Try.underlying23 info22 rfl rfl rfl rfl (by kernel_rfl) rfl ?_; clear hA hM a; intro b34 w20 hb35 hM; refine ⟨(fun hM => (((((hM.drop 5).drop 4).drop 3).drop 2).drop 0)) hM.tail, fun a hA => ?_⟩
     replace hM : Mem _ _ [pt b34 #[.slice ka32 ((((i.cost.getD k [])).take 70).length) kc33] 22, own 3 1 (.slice ka32 (((((i.cost.getD k [])).take 70)).length) kc33) (((((i.cost.getD k [])).take 70)).length) (((((i.cost.getD k [])).take 70)).map (Value.int .i64)), pt b23 #[.int .i64 i.kind, .int .i64 i.n, .int .i64 i.cap, .slice ka5 ((i.wt.take 70).length) kc6, .slice ka25 ((i.vl.take 70).length) kc26, .slice ao rs.length co] 25, own 3 1 (.slice ka5 (((i.wt.take 70)).length) kc6) (((i.wt.take 70)).length) (((i.wt.take 70)).map (Value.int .i64)), own 3 1 (.slice ka25 (((i.vl.take 70)).length) kc26) (((i.vl.take 70)).length) (((i.vl.take 70)).map (Value.int .i64)), own 22 1 (.slice ao rs.length co) rs.length ((rs.map orV)), bundle (rs.map (orC 3)), pt b3 cz0 25, pt b1 #[.int .i64 i.kind, .int .i64 i.n, .int .i64 i.cap, .slice ax3 i.wt.length cx3, .slice ax4 i.vl.length cx4, .slice ax5 i.cost.length cx5] 25] _ := hM
     refine D.append (k := 5) (k2 := 0) hA hM rfl rfl rfl Try.underlying23 info22 rfl rfl rfl rfl rfl rfl rfl rfl rfl (by first | (rw [take_min70, List.length_take]; unfold maxLen; omega) | (rw [take_min70, List.length_take]; show (0 + _) * 8 ≤ (140737488355328 : Nat); omega) | omega | (show (_ + 1) * 24 ≤ (140737488355328 : Nat); omega) | (unfold maxLen; omega)) (by first | (rw [take_min70, List.length_take]; unfold maxLen; omega) | (rw [take_min70, List.length_take]; show (0 + _) * 8 ≤ (140737488355328 : Nat); omega) | omega | (show (_ + 1) * 24 ≤ (140737488355328 : Nat); omega) | (unfold maxLen; omega)) rfl ?_; clear hA hM a; intro a36 c37 w21 hM
     replace hM : Mem _ _ [pt b34 #[.slice ka32 ((((i.cost.getD k [])).take 70).length) kc33] 22, own 3 1 (.slice ka32 (((((i.cost.getD k [])).take 70)).length) kc33) (((((i.cost.getD k [])).take 70)).length) (((((i.cost.getD k [])).take 70)).map (Value.int .i64)), pt b23 #[.int .i64 i.kind, .int .i64 i.n, .int .i64 i.cap, .slice ka5 ((i.wt.take 70).length) kc6, .slice ka25 ((i.vl.take 70).length) kc26, .slice ao rs.length co] 25, own 3 1 (.slice ka5 (((i.wt.take 70)).length) kc6) (((i.wt.take 70)).length) (((i.wt.take 70)).map (Value.int .i64)), own 3 1 (.slice ka25 (((i.vl.take 70)).length) kc26) (((i.vl.take 70)).length) (((i.vl.take 70)).map (Value.int .i64)), own 22 1 (.slice a36 (rs.length + 1) c37) (rs.length + 1) (((rs.map orV) ++ [.slice ka32 ((((i.cost.getD k [])).take 70).length) kc33])), bundle (rs.map (orC 3)), pt b3 cz0 25, pt b1 #[.int .i64 i.kind, .int .i64 i.n, .int .i64 i.cap, .slice ax3 i.wt.length cx3, .slice ax4 i.vl.length cx4, .slice ax5 i.cost.length cx5] 25] _ := hM
     replace hM := hM.drop 0
     replace hM : Mem _ _ [own 3 1 (.slice ka32 (((((i.cost.getD k [])).take 70)).length) kc33) (((((i.cost.getD k [])).take 70)).length) (((((i.cost.getD k [])).take 70)).map (Value.int .i64)), pt b23 #[.int .i64 i.kind, .int .i64 i.n, .int .i64 i.cap, .slice ka5 ((i.wt.take 70).length) kc6, .slice ka25 ((i.vl.take 70).length) kc26, .slice ao rs.length co] 25, own 3 1 (.slice ka5 (((i.wt.take 70)).length) kc6) (((i.wt.take 70)).length) (((i.wt.take 70)).map (Value.int .i64)), own 3 1 (.slice ka25 (((i.vl.take 70)).length) kc26) (((i.vl.take 70)).length) (((i.vl.take 70)).map (Value.int .i64)), own 22 1 (.slice a36 (rs.length + 1) c37) (rs.length + 1) (((rs.map orV) ++ [.slice ka32 ((((i.cost.getD k [])).take 70).length) kc33])), bundle (rs.map (orC 3)), pt b3 cz0 25, pt b1 #[.int .i64 i.kind, .int .i64 i.n, .int .i64 i.cap, .slice ax3 i.wt.length cx3, .slice ax4 i.vl.length cx4, .slice ax5 i.cost.length cx5] 25] _ := hM
     refine ⟨(((((hM.drop 5).drop 4).drop 3).drop 2).drop 0), fun a hA => ?_⟩
     refine D.valF hA rfl (fun _ => R.fieldAddr (q := 5) fi25_5 rfl rfl rfl) rfl ?_; clear hA a; intro a hA
     refine D.store (k := 1) hA hM rfl sz23 rfl rfl rfl rfl rfl ?_; clear hM
     intro w22 hM; refine ⟨fun _ hne => absurd rfl hne, ?_⟩
     replace hM : Mem _ _ [own 3 1 (.slice ka32 (((((i.cost.getD k [])).take 70)).length) kc33) (((((i.cost.getD k [])).take 70)).length) (((((i.cost.getD k [])).take 70)).map (Value.int .i64)), pt b23 #[.int .i64 i.kind, .int .i64 i.n, .int .i64 i.cap, .slice ka5 ((i.wt.take 70).length) kc6, .slice ka25 ((i.vl.take 70).length) kc26, .slice a36 (rs.length + 1) c37] 25, own 3 1 (.slice ka5 (((i.wt.take 70)).length) kc6) (((i.wt.take 70)).length) (((i.wt.take 70)).map (Value.int .i64)), own 3 1 (.slice ka25 (((i.vl.take 70)).length) kc26) (((i.vl.take 70)).length) (((i.vl.take 70)).map (Value.int .i64)), own 22 1 (.slice a36 (rs.length + 1) c37) (rs.length + 1) (((rs.map orV) ++ [.slice ka32 ((((i.cost.getD k [])).take 70).length) kc33])), bundle (rs.map (orC 3)), pt b3 cz0 25, pt b1 #[.int .i64 i.kind, .int .i64 i.n, .int .i64 i.cap, .slice ax3 i.wt.length cx3, .slice ax4 i.vl.length cx4, .slice ax5 i.cost.length cx5] 25] _ := hM
     refine D.done ?_
     replace hA : St 41 [(1, _), (2, _), (3, _), (4, _)] a := hA.sub ((.cons rfl (.cons rfl (.cons rfl (.cons rfl .nil)))))
     refine Ends.inBlock (Ends.region ?_)
     refine S.val hA (R.move rfl) rfl ?_; clear hA a; intro a hA
     refine S.val hA (R.addI rfl rfl (r := ((k : Int)) + 1) rfl (by omega)) rfl ?_; clear hA a; intro a hA
     refine S.val hA (R.assign rfl) rfl ?_; clear hA a; intro a hA
     refine S.done ?_
     rw [show (Value.slice ka32 ((((i.cost.getD k [])).take 70)).length kc33) = orV (⟨(((i.cost.getD k [])).take 70), ka32, kc33⟩ : OwR) from rfl, orV_snoc', len_snoc' rs (⟨(((i.cost.getD k [])).take 70), ka32, kc33⟩ : OwR)] at hM
     replace hM := hM.front (k := 5) rfl
     replace hM := hM.front (k := 1) rfl
     replace hM := (hM.ownOrC).bundleSnoc
     replace hM := hM.front (k := 6) rfl
     replace hM := hM.front (k := 6) rfl
     replace hM := hM.front (k := 2) rfl
     replace hM := hM.front (k := 6) rfl
     replace hM := hM.front (k := 6) rfl
     replace hM := hM.front (k := 6) rfl
     replace hM := hM.front (k := 6) rfl
     replace hM := hM.firstN 7
     exact hNext ((k + 1, a36, c37, rs ++ [(⟨(((i.cost.getD k [])).take 70), ka32, kc33⟩ : OwR)])) _ _ ((by show 30 - (k + 1) < 30 - k; omega)) ⟨hA.sub ((.cons rfl (.cons rfl (.cons rfl (.cons rfl .nil))))), hM, (by omega), (by rw [List.map_append, hY, takeR_snoc (show k < i.cost.length by omega)]; rfl)⟩
    ·
     have hlr : (i.cost.take 30).map (fun r => r.take 70) = (i.cost.take k).map (fun r => r.take 70) := by
      by_cases h9 : k = 30
      · rw [h9]
      · rw [List.take_of_length_le (show i.cost.length ≤ 30 by omega), List.take_of_length_le (show i.cost.length ≤ k by omega)]
     refine Ends.exit rfl ?_
     refine Ends.seq (Ends.region ?_)
     refine S.val hA (R.loadA sz25 rfl (hM.range (k := 0) rfl) rfl) rfl ?_; clear hA a; intro a hA
     refine S.storeA (k := 5) hA hM sz25 rfl rfl rfl rfl rfl rfl ?_; clear hM
     intro w23 hM
     replace hM : Mem _ _ [pt b23 #[.int .i64 i.kind, .int .i64 i.n, .int .i64 i.cap, .slice ka5 ((i.wt.take 70).length) kc6, .slice ka25 ((i.vl.take 70).length) kc26, .slice ao rs.length co] 25, own 3 1 (.slice ka5 (((i.wt.take 70)).length) kc6) (((i.wt.take 70)).length) (((i.wt.take 70)).map (Value.int .i64)), own 3 1 (.slice ka25 (((i.vl.take 70)).length) kc26) (((i.vl.take 70)).length) (((i.vl.take 70)).map (Value.int .i64)), own 22 1 (.slice ao rs.length co) rs.length ((rs.map orV)), bundle (rs.map (orC 3)), pt b3 #[.int .i64 i.kind, .int .i64 i.n, .int .i64 i.cap, .slice ka5 ((i.wt.take 70).length) kc6, .slice ka25 ((i.vl.take 70).length) kc26, .slice ao rs.length co] 25, pt b1 #[.int .i64 i.kind, .int .i64 i.n, .int .i64 i.cap, .slice ax3 i.wt.length cx3, .slice ax4 i.vl.length cx4, .slice ax5 i.cost.length cx5] 25] _ := hM
     refine S.done ?_
     replace hA : St 41 [(2, _)] a := hA.sub ((.cons rfl .nil))
     refine Ends.retC (k := 5) Try.func13 Try.results13 hA hM rfl rfl sz25 rfl ?_
     replace hM := hM.front (k := 4) rfl
     replace hM := hM.front (k := 4) rfl
     replace hM := hM.front (k := 4) rfl
     replace hM := hM.front (k := 4) rfl
     replace hM := hM.firstN 4
     exact ⟨ka5, kc6, ka25, kc26, ao, co, rs, rfl, by rw [hY, ← hlr]; rfl, Mem.pack (cs := insL 3 22 (cutI i) ka5 kc6 ka25 kc26 ao co rs) (L := []) hM⟩
   ·
    refine Ends.region ?_
    refine S.val hA (R.move rfl) rfl ?_; clear hA a; intro a hA
    refine S.val hA (R.fieldAddr (q := 5) fi25_5 rfl rfl rfl) rfl ?_; clear hA a; intro a hA
    refine S.val hA (R.load sz23 rfl (hM.cell (k := 6) rfl rfl)) rfl ?_; clear hA a; intro a hA
    refine S.val hA (R.lenS Try.underlying23 rfl rfl) rfl ?_; clear hA a; intro a hA
    refine S.val hA (R.lss rfl rfl) rfl ?_; clear hA a; intro a hA
    refine S.val hA (R.move rfl) rfl ?_; clear hA a; intro a hA
    refine hA.split (d := 23) rfl ?_ ?_
    ·
     clear hA; intro hg38 hA
     refine S.valg (dj := 23) hA (by kernel_rfl) rfl (R.move rfl) rfl ?_; clear hA a; intro a hA
     refine S.valg (dj := 23) hA (by kernel_rfl) rfl (R.lss rfl rfl) rfl ?_; clear hA a; intro a hA
     refine S.val hA (R.pickT rfl rfl) rfl ?_; clear hA a; intro a hA
     refine S.done ?_
     replace hA : St 41 [(1, _), (2, _), (3, _), (4, _), (26, _)] a := hA.sub ((.cons rfl (.cons rfl (.cons rfl (.cons rfl (.cons rfl .nil))))))
     exact hJ _ _ ⟨hA.sub (.cons rfl (.cons rfl (.cons rfl (.cons rfl (.cons (by first | rfl | exact congrArg (fun b => some (Value.bool b)) (by first | exact decide_eq_decide.2 (by omega) | exact or_bool (by omega) | exact and_bool (by omega) | (simp; done) | (simp [hg38]; done) | (have h80 := hg38; (try simp at h80); simp [h80]; done) | exact (decide_eq_false (fun h9 => hg38 h9.1)).symm)) .nil))))), hM⟩
    ·
     clear hA; intro hg38 hA
     refine S.no (dj := 23) hA (by kernel_rfl) rfl rfl rfl ?_; clear hA a; intro a hA
     refine S.no (dj := 23) hA (by kernel_rfl) rfl rfl rfl ?_; clear hA a; intro a hA
     refine S.val hA (R.pickF rfl rfl) rfl ?_; clear hA a; intro a hA
     refine S.done ?_
     replace hA : St 41 [(1, _), (2, _), (3, _), (4, _), (26, _)] a := hA.sub ((.cons rfl (.cons rfl (.cons rfl (.cons rfl (.cons rfl .nil))))))
     exact hJ _ _ ⟨hA.sub (.cons rfl (.cons rfl (.cons rfl (.cons rfl (.cons (by first | rfl | exact congrArg (fun b => some (Value.bool b)) (by first | exact decide_eq_decide.2 (by omega) | exact or_bool (by omega) | exact and_bool (by omega) | (simp; done) | (simp [hg38]; done) | (have h80 := hg38; (try simp at h80); simp [h80]; done) | exact (decide_eq_false (fun h9 => hg38 h9.1)).symm)) .nil))))), hM⟩
 ·
  refine D.alloc hA hM rfl info25 rfl rfl ?_; clear hA hM a; intro b39 w24 hb40 hM; refine ⟨(fun hM => hM) hM.tail, fun a hA => ?_⟩
  replace hM : Mem _ _ [pt b39 cz0 25, pt b3 cz0 25, pt b1 #[.int .i64 i.kind, .int .i64 i.n, .int .i64 i.cap, .slice ax3 i.wt.length cx3, .slice ax4 i.vl.length cx4, .slice ax5 i.cost.length cx5] 25] _ := hM
  refine D.call hA rfl (R.callF Try.func39 rfl rfl rfl) rfl (cut05 ax3 i.wt cx3 _ (hx3.mem hM)) ?_; clear hA a
  rintro e w25 ⟨ka41, kc42, rfl, hn⟩
  replace hM : Mem _ _ [own 3 1 (.slice ka41 (((i.wt.take 70)).length) kc42) (((i.wt.take 70)).length) (((i.wt.take 70)).map (Value.int .i64)), pt b39 cz0 25, pt b3 cz0 25, pt b1 #[.int .i64 i.kind, .int .i64 i.n, .int .i64 i.cap, .slice ax3 i.wt.length cx3, .slice ax4 i.vl.length cx4, .slice ax5 i.cost.length cx5] 25] _ := hM.call hn; clear hn
  refine ⟨.slice ka41 ((i.wt.take 70).length) kc42, rfl, ((hM.drop 1).drop 0), fun a hA => ?_⟩
  refine D.call hA rfl (R.callF Try.func39 rfl rfl rfl) rfl (cut05 ax4 i.vl cx4 _ (hx4.mem hM)) ?_; clear hA a
  rintro e w26 ⟨ka43, kc44, rfl, hn⟩
  replace hM : Mem _ _ [own 3 1 (.slice ka43 (((i.vl.take 70)).length) kc44) (((i.vl.take 70)).length) (((i.vl.take 70)).map (Value.int .i64)), own 3 1 (.slice ka41 (((i.wt.take 70)).length) kc42) (((i.wt.take 70)).length) (((i.wt.take 70)).map (Value.int .i64)), pt b39 cz0 25, pt b3 cz0 25, pt b1 #[.int .i64 i.kind, .int .i64 i.n, .int .i64 i.cap, .slice ax3 i.wt.length cx3, .slice ax4 i.vl.length cx4, .slice ax5 i.cost.length cx5] 25] _ := hM.call hn; clear hn
  refine ⟨.slice ka43 ((i.vl.take 70).length) kc44, rfl, (((hM.drop 2).drop 1).drop 0), fun a hA => ?_⟩
  refine D.valF hA rfl (fun _ => R.build (cells := #[.int .i64 i.kind, .int .i64 i.n, .int .i64 i.cap, .slice ka41 ((i.wt.take 70).length) kc42, .slice ka43 ((i.vl.take 70).length) kc44, .slice none 0 0]) rfl (by kernel_rfl)) rfl ?_; clear hA a; intro a hA
  refine D.storeA (k := 2) hA hM rfl sz25 rfl rfl rfl rfl rfl rfl ?_; clear hM
  intro w27 hM; refine ⟨fun _ hne => absurd rfl hne, ?_⟩
  replace hM : Mem _ _ [own 3 1 (.slice ka43 (((i.vl.take 70)).length) kc44) (((i.vl.take 70)).length) (((i.vl.take 70)).map (Value.int .i64)), own 3 1 (.slice ka41 (((i.wt.take 70)).length) kc42) (((i.wt.take 70)).length) (((i.wt.take 70)).map (Value.int .i64)), pt b39 #[.int .i64 i.kind, .int .i64 i.n, .int .i64 i.cap, .slice ka41 ((i.wt.take 70).length) kc42, .slice ka43 ((i.vl.take 70).length) kc44, .slice none 0 0] 25, pt b3 cz0 25, pt b1 #[.int .i64 i.kind, .int .i64 i.n, .int .i64 i.cap, .slice ax3 i.wt.length cx3, .slice ax4 i.vl.length cx4, .slice ax5 i.cost.length cx5] 25] _ := hM
  refine D.done ?_
  replace hA : St 41 [(1, _), (2, _), (3, _)] a := hA.sub ((.cons rfl (.cons rfl (.cons rfl .nil))))
  refine Ends.seq (Ends.seq (Ends.region ?_))
  refine S.val hA (R.assign rfl) rfl ?_; clear hA a; intro a hA
  refine S.done ?_
  refine Ends.block ?_
  replace hM := (hM.bundleNil (e := 3)).ownNil 22 1
  replace hM := hM.front (k := 6) rfl
  replace hM := hM.front (k := 6) rfl
  replace hM := hM.front (k := 3) rfl
  replace hM := hM.front (k := 3) rfl
  replace hM := hM.front (k := 4) rfl
  replace hM := hM.front (k := 5) rfl
  replace hM := hM.front (k := 6) rfl
  replace hM : Mem _ _ [pt b39 #[.int .i64 i.kind, .int .i64 i.n, .int .i64 i.cap, .slice ka41 ((i.wt.take 70).length) kc42, .slice ka43 ((i.vl.take 70).length) kc44, .slice none (([] : List OwR).length) 0] 25, own 3 1 (.slice ka41 (((i.wt.take 70)).length) kc42) (((i.wt.take 70)).length) (((i.wt.take 70)).map (Value.int .i64)), own 3 1 (.slice ka43 (((i.vl.take 70)).length) kc44) (((i.vl.take 70)).length) (((i.vl.take 70)).map (Value.int .i64)), own 22 1 (.slice none (([] : List OwR).length) 0) (([] : List OwR).length) ((([] : List OwR).map orV)), bundle (([] : List OwR).map (orC 3)), pt b3 cz0 25, pt b1 #[.int .i64 i.kind, .int .i64 i.n, .int .i64 i.cap, .slice ax3 i.wt.length cx3, .slice ax4 i.vl.length cx4, .slice ax5 i.cost.length cx5] 25] _ := hM
  refine Ends.loop (σ := Nat × Option Addr × Nat × List OwR) (fun (k, ao, co, rs) (a : Act) (wv : World) => St 41 [(1, .pointer (some ⟨b1, 0, none⟩)), (2, .pointer (some ⟨b3, 0, none⟩)), (3, .pointer (some ⟨b39, 0, none⟩)), (4, .int .i64 ((k : Int)))] a ∧ Mem w nof [pt b39 #[.int .i64 i.kind, .int .i64 i.n, .int .i64 i.cap, .slice ka41 ((i.wt.take 70).length) kc42, .slice ka43 ((i.vl.take 70).length) kc44, .slice ao rs.length co] 25, own 3 1 (.slice ka41 (((i.wt.take 70)).length) kc42) (((i.wt.take 70)).length) (((i.wt.take 70)).map (Value.int .i64)), own 3 1 (.slice ka43 (((i.vl.take 70)).length) kc44) (((i.vl.take 70)).length) (((i.vl.take 70)).map (Value.int .i64)), own 22 1 (.slice ao rs.length co) rs.length ((rs.map orV)), bundle (rs.map (orC 3)), pt b3 cz0 25, pt b1 #[.int .i64 i.kind, .int .i64 i.n, .int .i64 i.cap, .slice ax3 i.wt.length cx3, .slice ax4 i.vl.length cx4, .slice ax5 i.cost.length cx5] 25] wv ∧ (k ≤ i.cost.length ∧ k ≤ 30) ∧ (rs.map (·.Y) = (i.cost.take k).map (fun r => r.take 70))) (fun (k, ao, co, rs) => 30 - k) ((0, none, 0, [])) ⟨hA.sub ((.cons rfl (.cons rfl (.cons rfl (.cons rfl .nil))))), hM, (by omega), rfl⟩ ?_
  clear hA hM a
  rintro ⟨k, ao, co, rs⟩ a w28 ⟨hA, hM, hk, hY⟩ hNext
  refine Ends.seq (Ends.seq ?_)
  refine Ends.cut (fun (a : Act) (wv : World) => St 41 [(1, .pointer (some ⟨b1, 0, none⟩)), (2, .pointer (some ⟨b3, 0, none⟩)), (3, .pointer (some ⟨b39, 0, none⟩)), (4, .int .i64 ((k : Int))), (26, .bool (decide ((((k : Int)) < ((i.cost.length : Int)) ∧ ((k : Int)) < 30))))] a ∧ Mem w nof [pt b39 #[.int .i64 i.kind, .int .i64 i.n, .int .i64 i.cap, .slice ka41 ((i.wt.take 70).length) kc42, .slice ka43 ((i.vl.take 70).length) kc44, .slice ao rs.length co] 25, own 3 1 (.slice ka41 (((i.wt.take 70)).length) kc42) (((i.wt.take 70)).length) (((i.wt.take 70)).map (Value.int .i64)), own 3 1 (.slice ka43 (((i.vl.take 70)).length) kc44) (((i.vl.take 70)).length) (((i.vl.take 70)).map (Value.int .i64)), own 22 1 (.slice ao rs.length co) rs.length ((rs.map orV)), bundle (rs.map (orC 3)), pt b3 cz0 25, pt b1 #[.int .i64 i.kind, .int .i64 i.n, .int .i64 i.cap, .slice ax3 i.wt.length cx3, .slice ax4 i.vl.length cx4, .slice ax5 i.cost.length cx5] 25] wv) ?_ (fun k2 hJ => ?_)
  ·
   clear hA hM a; rintro a w29 ⟨hA, hM⟩
   refine Ends.ite hA rfl (fun hc45 => ?_) (fun hc45 => ?_)
   ·
    have hlr : rs.length = k := by have := congrArg List.length hY; simpa [List.length_take, Nat.min_eq_left hk.1] using this
    refine Ends.skip (Ends.seq (Ends.block ?_))
    refine Ends.drawn (Mem w nof [pt b39 #[.int .i64 i.kind, .int .i64 i.n, .int .i64 i.cap, .slice ka41 ((i.wt.take 70).length) kc42, .slice ka43 ((i.vl.take 70).length) kc44, .slice ao rs.length co] 25, pt b3 cz0 25, pt b1 #[.int .i64 i.kind, .int .i64 i.n, .int .i64 i.cap, .slice ax3 i.wt.length cx3, .slice ax4 i.vl.length cx4, .slice ax5 i.cost.length cx5] 25]) (.cons (0, true) (.cons (1, true) (.cons (2, true) (.cons (3, true) (.cons (4, true) (.cons (5, true) (.cons (6, true) (.cons (7, false) (.cons (8, false) (.cons (9, false) (.cons (10, true) (.cons (11, false) .nil)))))))))))) 11 mixed (by kernel_rfl) (by kernel_rfl) (by kernel_rfl) ((((hM.drop 4).drop 3).drop 2).drop 1).drew ?_
    replace hM := hM.drew
    refine D.valF hA rfl (fun _ => R.fieldAddr (q := 5) fi25_5 rfl rfl rfl) rfl ?_; clear hA a; intro a hA
    refine D.val hA rfl (by kernel_rfl) (fun _ hM => R.load sz23 rfl (hM.cell (k := 0) rfl rfl)) rfl ?_; clear hA a; intro a hA
    refine D.valF hA rfl (fun _ => R.fieldAddr (q := 5) fi25_5 rfl rfl rfl) rfl ?_; clear hA a; intro a hA
    refine D.val hA rfl (by kernel_rfl) (fun _ hM => R.load sz23 rfl (hM.cell (k := 2) rfl rfl)) rfl ?_; clear hA a; intro a hA
    refine D.valF hA rfl (fun _ => R.move rfl) rfl ?_; clear hA a; intro a hA
    refine D.valF hA rfl (fun _ => R.idxR hx5 (j := k) sl23 rfl rfl (by omega) (rfl)) rfl ?_; clear hA a; intro a hA
    obtain ⟨ra46, rc47, hrow48, hld49⟩ := hx5.atP (i := k) (by omega)
    refine D.val hA rfl (by kernel_rfl) (fun _ hM => hld49 _ _ _ _ _ _ hM sz22 rfl) rfl ?_; clear hA a; intro a hA
    refine D.call hA rfl (R.callF Try.func39 rfl rfl rfl) rfl (cut05 ra46 ((i.cost.getD k [])) rc47 _ (hrow48.mem hM)) ?_; clear hA a
    rintro e w30 ⟨ka50, kc51, rfl, hn⟩
    replace hM : Mem _ _ [own 3 1 (.slice ka50 (((((i.cost.getD k [])).take 70)).length) kc51) (((((i.cost.getD k [])).take 70)).length) (((((i.cost.getD k [])).take 70)).map (Value.int .i64)), pt b39 #[.int .i64 i.kind, .int .i64 i.n, .int .i64 i.cap, .slice ka41 ((i.wt.take 70).length) kc42, .slice ka43 ((i.vl.take 70).length) kc44, .slice ao rs.length co] 25, own 3 1 (.slice ka41 (((i.wt.take 70)).length) kc42) (((i.wt.take 70)).length) (((i.wt.take 70)).map (Value.int .i64)), own 3 1 (.slice ka43 (((i.vl.take 70)).length) kc44) (((i.vl.take 70)).length) (((i.vl.take 70)).map (Value.int .i64)), own 22 1 (.slice ao rs.length co) rs.length ((rs.map orV)), bundle (rs.map (orC 3)), pt b3 cz0 25, pt b1 #[.int .i64 i.kind, .int .i64 i.n, .int .i64 i.cap, .slice ax3 i.wt.length cx3, .slice ax4 i.vl.length cx4, .slice ax5 i.cost.length cx5] 25] _ := hM.call hn; clear hn
    refine ⟨.slice ka50 ((((i.cost.getD k [])).take 70).length) kc51, rfl, (((((hM.drop 5).drop 4).drop 3).drop 2).drop 0), fun a hA => ?_⟩
    refine D.buildSl (cells := #[.slice ka50 ((((i.cost.getD k [])).take 70).length) kc51]) hA hM rfl Try.underlying23 info22 rfl rfl rfl rfl (by kernel_rfl) rfl ?_; clear hA hM a; intro b52 w31 hb53 hM; refine ⟨(fun hM => (((((hM.drop 5).drop 4).drop 3).drop 2).drop 0)) hM.tail, fun a hA => ?_⟩
    replace hM : Mem _ _ [pt b52 #[.slice ka50 ((((i.cost.getD k [])).take 70).length) kc51] 22, own 3 1 (.slice ka50 (((((i.cost.getD k [])).take 70)).length) kc51) (((((i.cost.getD k [])).take 70)).length) (((((i.cost.getD k [])).take 70)).map (Value.int .i64)), pt b39 #[.int .i64 i.kind, .int .i64 i.n, .int .i64 i.cap, .slice ka41 ((i.wt.take 70).length) kc42, .slice ka43 ((i.vl.take 70).length) kc44, .slice ao rs.length co] 25, own 3 1 (.slice ka41 (((i.wt.take 70)).length) kc42) (((i.wt.take 70)).length) (((i.wt.take 70)).map (Value.int .i64)), own 3 1 (.slice ka43 (((i.vl.take 70)).length) kc44) (((i.vl.take 70)).length) (((i.vl.take 70)).map (Value.int .i64)), own 22 1 (.slice ao rs.length co) rs.length ((rs.map orV)), bundle (rs.map (orC 3)), pt b3 cz0 25, pt b1 #[.int .i64 i.kind, .int .i64 i.n, .int .i64 i.cap, .slice ax3 i.wt.length cx3, .slice ax4 i.vl.length cx4, .slice ax5 i.cost.length cx5] 25] _ := hM
    refine D.append (k := 5) (k2 := 0) hA hM rfl rfl rfl Try.underlying23 info22 rfl rfl rfl rfl rfl rfl rfl rfl rfl (by first | (rw [take_min70, List.length_take]; unfold maxLen; omega) | (rw [take_min70, List.length_take]; show (0 + _) * 8 ≤ (140737488355328 : Nat); omega) | omega | (show (_ + 1) * 24 ≤ (140737488355328 : Nat); omega) | (unfold maxLen; omega)) (by first | (rw [take_min70, List.length_take]; unfold maxLen; omega) | (rw [take_min70, List.length_take]; show (0 + _) * 8 ≤ (140737488355328 : Nat); omega) | omega | (show (_ + 1) * 24 ≤ (140737488355328 : Nat); omega) | (unfold maxLen; omega)) rfl ?_; clear hA hM a; intro a54 c55 w32 hM
    replace hM : Mem _ _ [pt b52 #[.slice ka50 ((((i.cost.getD k [])).take 70).length) kc51] 22, own 3 1 (.slice ka50 (((((i.cost.getD k [])).take 70)).length) kc51) (((((i.cost.getD k [])).take 70)).length) (((((i.cost.getD k [])).take 70)).map (Value.int .i64)), pt b39 #[.int .i64 i.kind, .int .i64 i.n, .int .i64 i.cap, .slice ka41 ((i.wt.take 70).length) kc42, .slice ka43 ((i.vl.take 70).length) kc44, .slice ao rs.length co] 25, own 3 1 (.slice ka41 (((i.wt.take 70)).length) kc42) (((i.wt.take 70)).length) (((i.wt.take 70)).map (Value.int .i64)), own 3 1 (.slice ka43 (((i.vl.take 70)).length) kc44) (((i.vl.take 70)).length) (((i.vl.take 70)).map (Value.int .i64)), own 22 1 (.slice a54 (rs.length + 1) c55) (rs.length + 1) (((rs.map orV) ++ [.slice ka50 ((((i.cost.getD k [])).take 70).length) kc51])), bundle (rs.map (orC 3)), pt b3 cz0 25, pt b1 #[.int .i64 i.kind, .int .i64 i.n, .int .i64 i.cap, .slice ax3 i.wt.length cx3, .slice ax4 i.vl.length cx4, .slice ax5 i.cost.length cx5] 25] _ := hM
    replace hM := hM.drop 0
    replace hM : Mem _ _ [own 3 1 (.slice ka50 (((((i.cost.getD k [])).take 70)).length) kc51) (((((i.cost.getD k [])).take 70)).length) (((((i.cost.getD k [])).take 70)).map (Value.int .i64)), pt b39 #[.int .i64 i.kind, .int .i64 i.n, .int .i64 i.cap, .slice ka41 ((i.wt.take 70).length) kc42, .slice ka43 ((i.vl.take 70).length) kc44, .slice ao rs.length co] 25, own 3 1 (.slice ka41 (((i.wt.take 70)).length) kc42) (((i.wt.take 70)).length) (((i.wt.take 70)).map (Value.int .i64)), own 3 1 (.slice ka43 (((i.vl.take 70)).length) kc44) (((i.vl.take 70)).length) (((i.vl.take 70)).map (Value.int .i64)), own 22 1 (.slice a54 (rs.length + 1) c55) (rs.length + 1) (((rs.map orV) ++ [.slice ka50 ((((i.cost.getD k [])).take 70).length) kc51])), bundle (rs.map (orC 3)), pt b3 cz0 25, pt b1 #[.int .i64 i.kind, .int .i64 i.n, .int .i64 i.cap, .slice ax3 i.wt.length cx3, .slice ax4 i.vl.length cx4, .slice ax5 i.cost.length cx5] 25] _ := hM
    refine ⟨(((((hM.drop 5).drop 4).drop 3).drop 2).drop 0), fun a hA => ?_⟩
    refine D.valF hA rfl (fun _ => R.fieldAddr (q := 5) fi25_5 rfl rfl rfl) rfl ?_; clear hA a; intro a hA
    refine D.store (k := 1) hA hM rfl sz23 rfl rfl rfl rfl rfl ?_; clear hM
    intro w33 hM; refine ⟨fun _ hne => absurd rfl hne, ?_⟩
    replace hM : Mem _ _ [own 3 1 (.slice ka50 (((((i.cost.getD k [])).take 70)).length) kc51) (((((i.cost.getD k [])).take 70)).length) (((((i.cost.getD k [])).take 70)).map (Value.int .i64)), pt b39 #[.int .i64 i.kind, .int .i64 i.n, .int .i64 i.cap, .slice ka41 ((i.wt.take 70).length) kc42, .slice ka43 ((i.vl.take 70).length) kc44, .slice a54 (rs.length + 1) c55] 25, own 3 1 (.slice ka41 (((i.wt.take 70)).length) kc42) (((i.wt.take 70)).length) (((i.wt.take 70)).map (Value.int .i64)), own 3 1 (.slice ka43 (((i.vl.take 70)).length) kc44) (((i.vl.take 70)).length) (((i.vl.take 70)).map (Value.int .i64)), own 22 1 (.slice a54 (rs.length + 1) c55) (rs.length + 1) (((rs.map orV) ++ [.slice ka50 ((((i.cost.getD k [])).take 70).length) kc51])), bundle (rs.map (orC 3)), pt b3 cz0 25, pt b1 #[.int .i64 i.kind, .int .i64 i.n, .int .i64 i.cap, .slice ax3 i.wt.length cx3, .slice ax4 i.vl.length cx4, .slice ax5 i.cost.length cx5] 25] _ := hM
    refine D.done ?_
    replace hA : St 41 [(1, _), (2, _), (3, _), (4, _)] a := hA.sub ((.cons rfl (.cons rfl (.cons rfl (.cons rfl .nil)))))
    refine Ends.inBlock (Ends.region ?_)
    refine S.val hA (R.move rfl) rfl ?_; clear hA a; intro a hA
    refine S.val hA (R.addI rfl rfl (r := ((k : Int)) + 1) rfl (by omega)) rfl ?_; clear hA a; intro a hA
    refine S.val hA (R.assign rfl) rfl ?_; clear hA a; intro a hA
    refine S.done ?_
    rw [show (Value.slice ka50 ((((i.cost.getD k [])).take 70)).length kc51) = orV (⟨(((i.cost.getD k [])).take 70), ka50, kc51⟩ : OwR) from rfl, orV_snoc', len_snoc' rs (⟨(((i.cost.getD k [])).take 70), ka50, kc51⟩ : OwR)] at hM
    replace hM := hM.front (k := 5) rfl
    replace hM := hM.front (k := 1) rfl
    replace hM := (hM.ownOrC).bundleSnoc
    replace hM := hM.front (k := 6) rfl
    replace hM := hM.front (k := 6) rfl
    replace hM := hM.front (k := 2) rfl
    replace hM := hM.front (k := 6) rfl
    replace hM := hM.front (k := 6) rfl
    replace hM := hM.front (k := 6) rfl
    replace hM := hM.front (k := 6) rfl
    replace hM := hM.firstN 7
    exact hNext ((k + 1, a54, c55, rs ++ [(⟨(((i.cost.getD k [])).take 70), ka50, kc51⟩ : OwR)])) _ _ ((by show 30 - (k + 1) < 30 - k; omega)) ⟨hA.sub ((.cons rfl (.cons rfl (.cons rfl (.cons rfl .nil))))), hM, (by omega), (by rw [List.map_append, hY, takeR_snoc (show k < i.cost.length by omega)]; rfl)⟩
   ·
    have hlr : (i.cost.take 30).map (fun r => r.take 70) = (i.cost.take k).map (fun r => r.take 70) := by
     by_cases h9 : k = 30
     · rw [h9]
     · rw [List.take_of_length_le (show i.cost.length ≤ 30 by omega), List.take_of_length_le (show i.cost.length ≤ k by omega)]
    refine Ends.exit rfl ?_
    refine Ends.seq (Ends.region ?_)
    refine S.val hA (R.loadA sz25 rfl (hM.range (k := 0) rfl) rfl) rfl ?_; clear hA a; intro a hA
    refine S.storeA (k := 5) hA hM sz25 rfl rfl rfl rfl rfl rfl ?_; clear hM
    intro w34 hM
    replace hM : Mem _ _ [pt b39 #[.int .i64 i.kind, .int .i64 i.n, .int .i64 i.cap, .slice ka41 ((i.wt.take 70).length) kc42, .slice ka43 ((i.vl.take 70).length) kc44, .slice ao rs.length co] 25, own 3 1 (.slice ka41 (((i.wt.take 70)).length) kc42) (((i.wt.take 70)).length) (((i.wt.take 70)).map (Value.int .i64)), own 3 1 (.slice ka43 (((i.vl.take 70)).length) kc44) (((i.vl.take 70)).length) (((i.vl.take 70)).map (Value.int .i64)), own 22 1 (.slice ao rs.length co) rs.length ((rs.map orV)), bundle (rs.map (orC 3)), pt b3 #[.int .i64 i.kind, .int .i64 i.n, .int .i64 i.cap, .slice ka41 ((i.wt.take 70).length) kc42, .slice ka43 ((i.vl.take 70).length) kc44, .slice ao rs.length co] 25, pt b1 #[.int .i64 i.kind, .int .i64 i.n, .int .i64 i.cap, .slice ax3 i.wt.length cx3, .slice ax4 i.vl.length cx4, .slice ax5 i.cost.length cx5] 25] _ := hM
    refine S.done ?_
    replace hA : St 41 [(2, _)] a := hA.sub ((.cons rfl .nil))
    refine Ends.retC (k := 5) Try.func13 Try.results13 hA hM rfl rfl sz25 rfl ?_
    replace hM := hM.front (k := 4) rfl
    replace hM := hM.front (k := 4) rfl
    replace hM := hM.front (k := 4) rfl
    replace hM := hM.front (k := 4) rfl
    replace hM := hM.firstN 4
    exact ⟨ka41, kc42, ka43, kc44, ao, co, rs, rfl, by rw [hY, ← hlr]; rfl, Mem.pack (cs := insL 3 22 (cutI i) ka41 kc42 ka43 kc44 ao co rs) (L := []) hM⟩
  ·
   refine Ends.region ?_
   refine S.val hA (R.move rfl) rfl ?_; clear hA a; intro a hA
   refine S.val hA (R.fieldAddr (q := 5) fi25_5 rfl rfl rfl) rfl ?_; clear hA a; intro a hA
   refine S.val hA (R.load sz23 rfl (hM.cell (k := 6) rfl rfl)) rfl ?_; clear hA a; intro a hA
   refine S.val hA (R.lenS Try.underlying23 rfl rfl) rfl ?_; clear hA a; intro a hA
   refine S.val hA (R.lss rfl rfl) rfl ?_; clear hA a; intro a hA
   refine S.val hA (R.move rfl) rfl ?_; clear hA a; intro a hA
   refine hA.split (d := 23) rfl ?_ ?_
   ·
    clear hA; intro hg56 hA
    refine S.valg (dj := 23) hA (by kernel_rfl) rfl (R.move rfl) rfl ?_; clear hA a; intro a hA
    refine S.valg (dj := 23) hA (by kernel_rfl) rfl (R.lss rfl rfl) rfl ?_; clear hA a; intro a hA
    refine S.val hA (R.pickT rfl rfl) rfl ?_; clear hA a; intro a hA
    refine S.done ?_
    replace hA : St 41 [(1, _), (2, _), (3, _), (4, _), (26, _)] a := hA.sub ((.cons rfl (.cons rfl (.cons rfl (.cons rfl (.cons rfl .nil))))))
    exact hJ _ _ ⟨hA.sub (.cons rfl (.cons rfl (.cons rfl (.cons rfl (.cons (by first | rfl | exact congrArg (fun b => some (Value.bool b)) (by first | exact decide_eq_decide.2 (by omega) | exact or_bool (by omega) | exact and_bool (by omega) | (simp; done) | (simp [hg56]; done) | (have h80 := hg56; (try simp at h80); simp [h80]; done) | exact (decide_eq_false (fun h9 => hg56 h9.1)).symm)) .nil))))), hM⟩
   ·
    clear hA; intro hg56 hA
    refine S.no (dj := 23) hA (by kernel_rfl) rfl rfl rfl ?_; clear hA a; intro a hA
    refine S.no (dj := 23) hA (by kernel_rfl) rfl rfl rfl ?_; clear hA a; intro a hA
    refine S.val hA (R.pickF rfl rfl) rfl ?_; clear hA a; intro a hA
    refine S.done ?_
    replace hA : St 41 [(1, _), (2, _), (3, _), (4, _), (26, _)] a := hA.sub ((.cons rfl (.cons rfl (.cons rfl (.cons rfl (.cons rfl .nil))))))
    exact hJ _ _ ⟨hA.sub (.cons rfl (.cons rfl (.cons rfl (.cons rfl (.cons (by first | rfl | exact congrArg (fun b => some (Value.bool b)) (by first | exact decide_eq_decide.2 (by omega) | exact or_bool (by omega) | exact and_bool (by omega) | (simp; done) | (simp [hg56]; done) | (have h80 := hg56; (try simp at h80); simp [h80]; done) | exact (decide_eq_false (fun h9 => hg56 h9.1)).symm)) .nil))))), hM⟩
theorem copyG (i : Ins) (ax3 : Option Addr) (cx3 : Nat) (ax4 : Option Addr) (cx4 : Nat) (ax5 : Option Addr) (cx5 : Nat) (G : Ins) (hG : G = cutI i) (w : World) (hx3 : IntSl w (.slice ax3 i.wt.length cx3) i.wt) (hx4 : IntSl w (.slice ax4 i.vl.length cx4) i.vl) (hx5 : RowsV w (.slice ax5 i.cost.length cx5) i.cost) : Calls Try.prog 13 #[.agg #[.int .i64 i.kind, .int .i64 i.n, .int .i64 i.cap, .slice ax3 i.wt.length cx3, .slice ax4 i.vl.length cx4, .slice ax5 i.cost.length cx5]] w fun e w' => ∃ aw cw av cv ac cc rs, e = .returned (insA G aw cw av cv ac cc rs) ∧ rs.map (·.Y) = G.cost ∧ Mem w nof [bundle (insL 3 22 G aw cw av cv ac cc rs)] w' := by
  subst hG; exact copy05_own i ax3 cx3 ax4 cx4 ax5 cx5 w hx3 hx4 hx5
theorem chk_inF {i : Ins} (h : chk i = 0) : InF i := by
  unfold chk at h
  split at h
  · rename_i q; exact absurd h q
  · rename_i q
    split at h
    · rename_i q2; exact inF_of (Decidable.not_not.1 q) q2 h
    · cases h
end Go.Proofs.Ytnikajkklocncaa
namespace Go.Proofs.Ytnikajkklocncaa
open Go.RowKit
theorem Mem.eqM {w0 w : World} {F : Nat → Prop} {L L2 : List Ck} (h : Mem w0 F L w) (he : L = L2) : Mem w0 F L2 w := he ▸ h
theorem lo_nil (x : List Int) : loW (memF (x.take 0)) = 0 := by unfold loW; rw [wdB_none (fun b _ => by simp [memF])]; rfl
theorem hi_nil (x : List Int) : hiW (memF (x.take 0)) = 0 := by unfold hiW; rw [wdB_none (f := fun b => memF (x.take 0) (64 + b)) (fun b _ => by simp [memF])]; rfl
theorem full_w {n : Nat} (h : n < 64) : IntKind.u64.wrap (IntKind.u64.wrap (1 * 2 ^ min n IntKind.u64.bits) - 1) = loW (lessF n) := by
  rw [u64_pow h, full_lo h, IntKind.wrap_u64]
  have h2 : 2 ^ n < 2 ^ 64 := Nat.pow_lt_pow_right (by decide) h
  have h3 : 0 < 2 ^ n := Nat.pow_pos (by decide)
  generalize 2 ^ n = p at h2 h3
  omega
theorem eq_set (a b c d : Int) (w : World) : (Op.equalIn 10000 63 (.agg #[.int .u64 a, .int .u64 b]) (.agg #[.int .u64 c, .int .u64 d])).run Try.prog w = .ok (decide (a = c ∧ b = d)) w := by
  have u3 := Try.underlying45
  have q3 := Try.isAgg45
  have z3 := Try.sizeOf45
  rw [show (10000 : Nat) = 9999 + 1 from rfl, run_equalIn_array (P := Try.prog) w 9999 _ _ Try.underlying63 info45]
  rw [show List.range 2 = [0, 1] from rfl, show Try.prog.cellsOf 45 = 1 by kernel_rfl]
  simp only [Op.eqItems]
  by_cases h1 : a = c
  · by_cases h2 : b = d
    · subst h1; subst h2; go_simp
    · subst h1; go_simp
  · go_simp
def costI (i : Ins) (x : List Int) : Int × Int := if chk i ≠ 0 then (0, chk i) else if i.kind = 1 then knpI i x else if ¬ ordP i x then (0, 1) else (sumF (stp i x) i.n.toNat, 0)
def plnI (i : Ins) : List Int := if chk i ≠ 0 then [] else if i.kind = 1 then List.replicate i.n.toNat 0 else (List.range i.n.toNat).map Int.ofNat
def totI (i : Ins) : Int := if chk i ≠ 0 then 0 else i.vl.sum + sumF (mxR i) i.cost.length
theorem inF_len {i : Ins} (h : InF i) : i.wt.length ≤ 64 ∧ i.vl.length ≤ 64 ∧ i.cost.length ≤ 64 := by
  have h1 := h.wt
  have h2 := h.vl
  have h3 := h.cost
  have h4 := h.n64
  refine ⟨?_, ?_, ?_⟩
  · rw [h1]; split <;> omega
  · rw [h2]; split <;> omega
  · rw [h3]; split <;> omega
theorem vl_sum {i : Ins} (h : InF i) : 0 ≤ i.vl.sum ∧ i.vl.sum ≤ 64 * 2147483647 := by
  rw [← sumF_list]
  have h1 := sumF_bd (f := fun q => i.vl.getD q 0) (B := 2147483647) (by decide) (k := i.vl.length) (fun q _ => h.vlr q)
  have := (inF_len h).2.1
  omega
theorem wtF_bd {i : Ins} (h : InF i) (x : List Int) (k : Nat) (hk : k ≤ 64) : 0 ≤ sumF (wtF i x) k ∧ sumF (wtF i x) k ≤ 64 * 2147483647 := by
  have h1 := sumF_bd (f := wtF i x) (B := 2147483647) (by decide) (k := k) (fun q _ => by unfold wtF; have := h.wtr q; split <;> omega)
  omega
theorem vlF_bd {i : Ins} (h : InF i) (x : List Int) (k : Nat) (hk : k ≤ 64) : 0 ≤ sumF (vlF i x) k ∧ sumF (vlF i x) k ≤ 64 * 2147483647 := by
  have h1 := sumF_bd (f := vlF i x) (B := 2147483647) (by decide) (k := k) (fun q _ => by unfold vlF; have := h.vlr q; split <;> omega)
  omega
theorem cl2_bd {i : Ins} (h : InF i) (r c : Int) : 0 ≤ cl2 i r c ∧ cl2 i r c ≤ 2147483647 := h.cell _ _
theorem stp_bd {i : Ins} (h : InF i) (x : List Int) (k : Nat) (hk : k ≤ 64) : 0 ≤ sumF (stp i x) k ∧ sumF (stp i x) k ≤ 64 * 2147483647 := by
  have h1 := sumF_bd (f := stp i x) (B := 2147483647) (by decide) (k := k) (fun q _ => by unfold stp; split <;> exact cl2_bd h _ _)
  omega
theorem knp_bd {i : Ins} (h : InF i) (x : List Int) : 0 ≤ (knpI i x).1 ∧ (knpI i x).1 ≤ 64 * 2147483647 := by
  have h1 := h.n64
  unfold knpI
  split
  · simp
  · split
    · simp
    · split
      · simp
      · exact vlF_bd h x _ (by omega)
theorem cost_bd (i : Ins) (x : List Int) : 0 ≤ (costI i x).1 ∧ (costI i x).1 ≤ 64 * 2147483647 := by
  unfold costI
  split
  · simp
  · rename_i h
    have hF := chk_inF (Decidable.not_not.1 h)
    have h1 := hF.n64
    split
    · exact knp_bd hF x
    · split
      · simp
      · exact stp_bd hF x _ (by omega)
theorem mxR_bd {i : Ins} (h : InF i) (r : Nat) : 0 ≤ mxR i r ∧ mxR i r ≤ 2147483647 := mxF_bd (by decide) (fun q _ => (h.cell r q).2)
theorem mxS_bd {i : Ins} (h : InF i) (k : Nat) (hk : k ≤ 64) : 0 ≤ sumF (mxR i) k ∧ sumF (mxR i) k ≤ 64 * 2147483647 := by
  have h1 := sumF_bd (f := mxR i) (B := 2147483647) (by decide) (k := k) (fun q _ => mxR_bd h q)
  omega
theorem take_all {X : List Int} {k : Nat} (h : k = X.length) : X.take k = X := by subst h; exact List.take_length
set_option maxRecDepth 100000 in
set_option maxHeartbeats 400000 in
theorem within02 (i : Int) (w : World) :
  Calls Try.prog 75 #[.int .i64 i] w fun e w' => e = .returned (.bool (decide (0 ≤ i ∧ i < 128))) ∧ Below w.heap.size w w' := by
 have hbs := Below.refl (B := w.heap.size) w
 have hM := Mem.start w
 refine Calls.of_ends (vs := [.int .i64 i]) Try.func75 rfl Try.ntmps75 rfl ?_
 intro a hA
 replace hA : St 9 [(0, _)] a := hA
 refine Ends.seq (Ends.region ?_)
 refine S.val hA (R.assign rfl) rfl ?_; clear hA a; intro a hA
 refine S.done ?_
 refine Ends.seq ?_
 refine Ends.cut (fun (a : Act) (wv : World) => St 9 [(2, .bool (decide ((0 ≤ i ∧ i < 128))))] a ∧ Mem w nof [] wv) ?_ (fun k2 hJ => ?_)
 ·
  clear hA hM a; rintro a w1 ⟨hA, hM⟩
  refine Ends.ret1 Try.func75 Try.results75 hA rfl ?_
  exact ⟨congrArg (fun b => Ending.returned (.bool b)) (decide_eq_decide.2 (by omega)), Mem.trans0 hbs hM.nilL⟩
 ·
  refine Ends.region ?_
  refine S.val hA (R.move rfl) rfl ?_; clear hA a; intro a hA
  refine S.val hA (R.geq rfl rfl) rfl ?_; clear hA a; intro a hA
  refine S.val hA (R.move rfl) rfl ?_; clear hA a; intro a hA
  refine hA.split (d := 5) rfl ?_ ?_
  ·
   clear hA; intro hg1 hA
   refine S.valg (dj := 5) hA (by kernel_rfl) rfl (R.move rfl) rfl ?_; clear hA a; intro a hA
   refine S.valg (dj := 5) hA (by kernel_rfl) rfl (R.lss rfl rfl) rfl ?_; clear hA a; intro a hA
   refine S.val hA (R.pickT rfl rfl) rfl ?_; clear hA a; intro a hA
   refine S.val hA (R.assign rfl) rfl ?_; clear hA a; intro a hA
   refine S.done ?_
   replace hA : St 9 [(2, _)] a := hA.sub ((.cons rfl .nil))
   exact hJ _ _ ⟨hA.sub (.cons (by first | rfl | exact congrArg (fun b => some (Value.bool b)) (by first | exact decide_eq_decide.2 (by omega) | exact or_bool (by omega) | exact and_bool (by omega) | (simp; done) | (simp [hg1]; done) | (have h80 := hg1; (try simp at h80); simp [h80]; done) | exact (decide_eq_false (fun h9 => hg1 h9.1)).symm)) .nil), hM⟩
  ·
   clear hA; intro hg1 hA
   refine S.no (dj := 5) hA (by kernel_rfl) rfl rfl rfl ?_; clear hA a; intro a hA
   refine S.no (dj := 5) hA (by kernel_rfl) rfl rfl rfl ?_; clear hA a; intro a hA
   refine S.val hA (R.pickF rfl rfl) rfl ?_; clear hA a; intro a hA
   refine S.val hA (R.assign rfl) rfl ?_; clear hA a; intro a hA
   refine S.done ?_
   replace hA : St 9 [(2, _)] a := hA.sub ((.cons rfl .nil))
   exact hJ _ _ ⟨hA.sub (.cons (by first | rfl | exact congrArg (fun b => some (Value.bool b)) (by first | exact decide_eq_decide.2 (by omega) | exact or_bool (by omega) | exact and_bool (by omega) | (simp; done) | (simp [hg1]; done) | (have h80 := hg1; (try simp at h80); simp [h80]; done) | exact (decide_eq_false (fun h9 => hg1 h9.1)).symm)) .nil), hM⟩
set_option maxRecDepth 100000 in
set_option maxHeartbeats 400000 in
theorem with02 (f : Nat → Bool) (i : Int) (w : World) :
  Calls Try.prog 70 #[.agg #[.int .u64 (loW f), .int .u64 (hiW f)], .int .i64 i] w fun e w' => e = .returned (.agg #[.int .u64 (loW (addF f i)), .int .u64 (hiW (addF f i))]) ∧ Below w.heap.size w w' := by
 have hbs := Below.refl (B := w.heap.size) w
 have hM := Mem.start w
 refine Calls.of_ends (vs := [.agg #[.int .u64 (loW f), .int .u64 (hiW f)], .int .i64 i]) Try.func70 rfl Try.ntmps70 rfl ?_
 intro a hA
 replace hA : St 17 [(0, _), (1, _)] a := hA
 refine Ends.seq (Ends.region ?_)
 refine S.box hA hM rfl rfl ?_; clear hA hM a; intro b1 w1 hb2 hM a hA
 replace hM : Mem _ _ [pt b1 #[.int .u64 (loW f), .int .u64 (hiW f)] 63] _ := hM
 refine S.alloc hA hM info63 rfl rfl ?_; clear hA hM a; intro b3 w2 hb4 hM a hA
 replace hM : Mem _ _ [pt b3 #[.int .u64 0, .int .u64 0] 63, pt b1 #[.int .u64 (loW f), .int .u64 (hiW f)] 63] _ := hM
 refine S.done ?_
 refine Ends.seq (Ends.seq (Ends.region ?_))
 refine S.val hA (R.move rfl) rfl ?_; clear hA a; intro a hA
 refine S.call hA (R.callF Try.func75 rfl rfl rfl) rfl (within02 i _) ?_; clear hA a
 rintro e w3 ⟨rfl, hb⟩
 replace hM := hM.callB hb; clear hb
 refine ⟨.bool (decide (0 ≤ i ∧ i < 128)), rfl, fun a hA => ?_⟩
 refine S.done ?_
 refine Ends.ite hA rfl (fun hc5 => ?_) (fun hc5 => ?_)
 ·
  have hin := hc5
  by_cases hs6 : i < 64
  ·
   obtain ⟨m, hm, hmi⟩ : ∃ m : Nat, m < 64 ∧ i = (m : Int) := ⟨i.toNat, by omega, by omega⟩
   have e9 : (i % 64).toNat = m := by omega
   refine Ends.drawn (Mem w nof [pt b3 #[.int .u64 0, .int .u64 0] 63, pt b1 #[.int .u64 (loW f), .int .u64 (hiW f)] 63]) (.cons (0, true) (.cons (1, true) (.cons (2, true) (.cons (3, true) (.cons (4, true) (.cons (5, true) (.cons (6, true) (.cons (7, true) (.cons (8, true) (.cons (9, false) .nil)))))))))) 9 mixed (by kernel_rfl) (by kernel_rfl) (by kernel_rfl) hM.drew ?_
   replace hM := hM.drew
   refine D.valF hA rfl (fun _ => R.move rfl) rfl ?_; clear hA a; intro a hA
   refine D.valF hA rfl (fun _ => R.quoI rfl rfl rfl (by omega)) rfl ?_; clear hA a; intro a hA
   refine D.valF hA rfl (fun _ => R.indexAddrA (q := 0) ar63 rfl rfl (by omega) (by omega)) rfl ?_; clear hA a; intro a hA
   refine D.val hA rfl (by kernel_rfl) (fun _ hM => R.load sz45 rfl (hM.cell (k := 1) rfl rfl)) rfl ?_; clear hA a; intro a hA
   refine D.valF hA rfl (fun _ => R.move rfl) rfl ?_; clear hA a; intro a hA
   refine D.valF hA rfl (fun _ => R.remI rfl rfl rfl (by omega)) rfl ?_; clear hA a; intro a hA
   refine D.valF hA rfl (fun _ => R.shl rfl rfl (by omega)) rfl ?_; clear hA a; intro a hA
   refine D.valF hA rfl (fun _ => R.bits (by simp) rfl rfl) rfl ?_; clear hA a; intro a hA
   refine D.valF hA rfl (fun _ => R.indexAddrA (q := 0) ar63 rfl rfl (by omega) (by omega)) rfl ?_; clear hA a; intro a hA
   refine D.store (k := 1) hA hM rfl sz45 rfl rfl rfl rfl rfl ?_; clear hM
   intro w4 hM; refine ⟨fun _ hne => absurd rfl hne, ?_⟩
   replace hM : Mem _ _ [pt b3 #[.int .u64 0, .int .u64 0] 63, pt b1 #[.int .u64 (bits .or .u64 (loW f) (IntKind.u64.wrap (1 * 2 ^ min (i % 64).toNat (IntKind.u64).bits))), .int .u64 (hiW f)] 63] _ := hM
   refine D.done ?_
   obtain ⟨g1, g2⟩ := add_lo (f := f) hm
   rw [← hmi] at g1 g2
   rw [e9, g1, ← g2] at hM
   replace hM : Mem _ _ [pt b3 #[.int .u64 0, .int .u64 0] 63, pt b1 #[.int .u64 (loW (addF f i)), .int .u64 (hiW (addF f i))] 63] _ := hM
   replace hA : St 17 [(2, _), (4, _)] a := hA.sub ((.cons rfl (.cons rfl .nil)))
   refine Ends.seq (Ends.region ?_)
   refine S.val hA (R.loadA sz63 rfl (hM.range (k := 1) rfl) rfl) rfl ?_; clear hA a; intro a hA
   refine S.storeA (k := 0) hA hM sz63 rfl rfl rfl rfl rfl rfl ?_; clear hM
   intro w5 hM
   replace hM : Mem _ _ [pt b3 #[.int .u64 (loW (addF f i)), .int .u64 (hiW (addF f i))] 63, pt b1 #[.int .u64 (loW (addF f i)), .int .u64 (hiW (addF f i))] 63] _ := hM
   refine S.done ?_
   refine Ends.retC (k := 0) Try.func70 Try.results70 hA hM rfl rfl sz63 rfl ?_
   exact ⟨rfl, Mem.trans0 hbs hM.nilL⟩
  ·
   obtain ⟨m, hm, hmi⟩ : ∃ m : Nat, m < 64 ∧ i = ((64 + m : Nat) : Int) := ⟨(i - 64).toNat, by omega, by omega⟩
   have e9 : (i % 64).toNat = m := by omega
   refine Ends.drawn (Mem w nof [pt b3 #[.int .u64 0, .int .u64 0] 63, pt b1 #[.int .u64 (loW f), .int .u64 (hiW f)] 63]) (.cons (0, true) (.cons (1, true) (.cons (2, true) (.cons (3, true) (.cons (4, true) (.cons (5, true) (.cons (6, true) (.cons (7, true) (.cons (8, true) (.cons (9, false) .nil)))))))))) 9 mixed (by kernel_rfl) (by kernel_rfl) (by kernel_rfl) hM.drew ?_
   replace hM := hM.drew
   refine D.valF hA rfl (fun _ => R.move rfl) rfl ?_; clear hA a; intro a hA
   refine D.valF hA rfl (fun _ => R.quoI rfl rfl rfl (by omega)) rfl ?_; clear hA a; intro a hA
   refine D.valF hA rfl (fun _ => R.indexAddrA (q := 1) ar63 rfl rfl (by omega) (by omega)) rfl ?_; clear hA a; intro a hA
   refine D.val hA rfl (by kernel_rfl) (fun _ hM => R.load sz45 rfl (hM.cell (k := 1) rfl rfl)) rfl ?_; clear hA a; intro a hA
   refine D.valF hA rfl (fun _ => R.move rfl) rfl ?_; clear hA a; intro a hA
   refine D.valF hA rfl (fun _ => R.remI rfl rfl rfl (by omega)) rfl ?_; clear hA a; intro a hA
   refine D.valF hA rfl (fun _ => R.shl rfl rfl (by omega)) rfl ?_; clear hA a; intro a hA
   refine D.valF hA rfl (fun _ => R.bits (by simp) rfl rfl) rfl ?_; clear hA a; intro a hA
   refine D.valF hA rfl (fun _ => R.indexAddrA (q := 1) ar63 rfl rfl (by omega) (by omega)) rfl ?_; clear hA a; intro a hA
   refine D.store (k := 1) hA hM rfl sz45 rfl rfl rfl rfl rfl ?_; clear hM
   intro w6 hM; refine ⟨fun _ hne => absurd rfl hne, ?_⟩
   replace hM : Mem _ _ [pt b3 #[.int .u64 0, .int .u64 0] 63, pt b1 #[.int .u64 (loW f), .int .u64 (bits .or .u64 (hiW f) (IntKind.u64.wrap (1 * 2 ^ min (i % 64).toNat (IntKind.u64).bits)))] 63] _ := hM
   refine D.done ?_
   obtain ⟨g1, g2⟩ := add_hi (f := f) hm
   rw [← hmi] at g1 g2
   rw [e9, g1, ← g2] at hM
   replace hM : Mem _ _ [pt b3 #[.int .u64 0, .int .u64 0] 63, pt b1 #[.int .u64 (loW (addF f i)), .int .u64 (hiW (addF f i))] 63] _ := hM
   replace hA : St 17 [(2, _), (4, _)] a := hA.sub ((.cons rfl (.cons rfl .nil)))
   refine Ends.seq (Ends.region ?_)
   refine S.val hA (R.loadA sz63 rfl (hM.range (k := 1) rfl) rfl) rfl ?_; clear hA a; intro a hA
   refine S.storeA (k := 0) hA hM sz63 rfl rfl rfl rfl rfl rfl ?_; clear hM
   intro w7 hM
   replace hM : Mem _ _ [pt b3 #[.int .u64 (loW (addF f i)), .int .u64 (hiW (addF f i))] 63, pt b1 #[.int .u64 (loW (addF f i)), .int .u64 (hiW (addF f i))] 63] _ := hM
   refine S.done ?_
   refine Ends.retC (k := 0) Try.func70 Try.results70 hA hM rfl rfl sz63 rfl ?_
   exact ⟨rfl, Mem.trans0 hbs hM.nilL⟩
 ·
  refine Ends.skip (Ends.seq (Ends.region ?_))
  refine S.val hA (R.loadA sz63 rfl (hM.range (k := 1) rfl) rfl) rfl ?_; clear hA a; intro a hA
  refine S.storeA (k := 0) hA hM sz63 rfl rfl rfl rfl rfl rfl ?_; clear hM
  intro w8 hM
  replace hM : Mem _ _ [pt b3 #[.int .u64 (loW f), .int .u64 (hiW f)] 63, pt b1 #[.int .u64 (loW f), .int .u64 (hiW f)] 63] _ := hM
  refine S.done ?_
  replace hA : St 17 [(4, _)] a := hA.sub ((.cons rfl .nil))
  refine Ends.retC (k := 0) Try.func70 Try.results70 hA hM rfl rfl sz63 rfl ?_
  obtain ⟨g1, g2⟩ := add_out (f := f) hc5
  exact ⟨by rw [g1, g2], Mem.trans0 hbs hM.nilL⟩
set_option maxRecDepth 100000 in
set_option maxHeartbeats 400000 in
theorem of02 (ay : Option Addr) (x : List Int) (cy : Nat) (w : World) (hy : IntSl w (.slice ay x.length cy) x) :
  Calls Try.prog 60 #[.slice ay x.length cy] w fun e w' => e = .returned (.agg #[.int .u64 (loW (memF x)), .int .u64 (hiW (memF x))]) ∧ Below w.heap.size w w' := by
 have hbs := Below.refl (B := w.heap.size) w
 have hlx := hy.lenB
 have hM := Mem.start w
 refine Calls.of_ends (vs := [.slice ay x.length cy]) Try.func60 rfl Try.ntmps60 rfl ?_
 intro a hA
 replace hA : St 17 [(0, _)] a := hA
 refine Ends.seq (Ends.region ?_)
 refine S.alloc hA hM info63 rfl rfl ?_; clear hA hM a; intro b1 w1 hb2 hM a hA
 replace hM : Mem _ _ [pt b1 #[.int .u64 0, .int .u64 0] 63] _ := hM
 refine S.done ?_
 refine Ends.seq (Ends.region ?_)
 refine S.alloc hA hM info63 rfl rfl ?_; clear hA hM a; intro b3 w2 hb4 hM a hA
 replace hM : Mem _ _ [pt b3 #[.int .u64 0, .int .u64 0] 63, pt b1 #[.int .u64 0, .int .u64 0] 63] _ := hM
 refine S.done ?_
 refine Ends.seq (Ends.seq (Ends.region ?_))
 refine S.val hA (R.move rfl) rfl ?_; clear hA a; intro a hA
 refine S.val hA (R.lenS Try.underlying22 rfl rfl) rfl ?_; clear hA a; intro a hA
 refine S.val hA (R.move rfl) rfl ?_; clear hA a; intro a hA
 refine S.done ?_
 refine Ends.block ?_
 replace hM := Mem.eqM (L2 := [pt b3 #[.int .u64 (loW (memF (x.take 0))), .int .u64 (hiW (memF (x.take 0)))] 63, pt b1 #[.int .u64 0, .int .u64 0] 63]) hM (by rw [lo_nil, hi_nil])
 refine Ends.loop (σ := Nat) (fun k (a : Act) (wv : World) => St 17 [(2, .pointer (some ⟨b1, 0, none⟩)), (3, .pointer (some ⟨b3, 0, none⟩)), (6, .slice ay x.length cy), (7, .int .i64 ((x.length : Int))), (8, .int .i64 ((k : Int)))] a ∧ Mem w nof [pt b3 #[.int .u64 (loW (memF (x.take k))), .int .u64 (hiW (memF (x.take k)))] 63, pt b1 #[.int .u64 0, .int .u64 0] 63] wv ∧ (k ≤ x.length)) (fun k => x.length - k) 0 ⟨hA.sub ((.cons rfl (.cons rfl (.cons rfl (.cons rfl (.cons rfl .nil)))))), hM, (Nat.zero_le _)⟩ ?_
 clear hA hM a
 rintro k a w3 ⟨hA, hM, hk⟩ hNext
 refine Ends.seq (Ends.region ?_)
 refine S.val hA (R.lss rfl rfl) rfl ?_; clear hA a; intro a hA
 refine S.done ?_
 refine Ends.seq ?_
 refine Ends.ite hA rfl (fun hc5 => ?_) (fun hc5 => ?_)
 ·
  refine Ends.skip (Ends.seq (Ends.block (Ends.seq (Ends.region ?_))))
  refine S.val hA (R.idxI hy (j := k) sl22 rfl rfl (by omega) (rfl)) rfl ?_; clear hA a; intro a hA
  refine S.val hA (R.loadI (hy.mem hM) sz3 rfl (by omega)) rfl ?_; clear hA a; intro a hA
  refine S.val hA (R.assign rfl) rfl ?_; clear hA a; intro a hA
  refine S.done ?_
  refine Ends.region ?_
  refine S.val hA (R.loadA sz63 rfl (hM.range (k := 0) rfl) rfl) rfl ?_; clear hA a; intro a hA
  refine S.val hA (R.move rfl) rfl ?_; clear hA a; intro a hA
  refine S.call hA (R.callF Try.func70 rfl rfl rfl) rfl (with02 (memF (x.take k)) (x.getD k 0) _) ?_; clear hA a
  rintro e w4 ⟨rfl, hb⟩
  replace hM := hM.callB hb; clear hb
  refine ⟨.agg #[.int .u64 (loW (addF (memF (x.take k)) (x.getD k 0))), .int .u64 (hiW (addF (memF (x.take k)) (x.getD k 0)))], rfl, fun a hA => ?_⟩
  refine S.storeA (k := 0) hA hM sz63 rfl rfl rfl rfl rfl rfl ?_; clear hM
  intro w5 hM
  replace hM : Mem _ _ [pt b3 #[.int .u64 (loW (addF (memF (x.take k)) (x.getD k 0))), .int .u64 (hiW (addF (memF (x.take k)) (x.getD k 0)))] 63, pt b1 #[.int .u64 0, .int .u64 0] 63] _ := hM
  refine S.done ?_
  replace hA : St 17 [(2, _), (3, _), (6, _), (7, _), (8, _)] a := hA.sub ((.cons rfl (.cons rfl (.cons rfl (.cons rfl (.cons rfl .nil))))))
  refine Ends.inBlock (Ends.region ?_)
  refine S.val hA (R.addI rfl rfl (r := ((k : Int)) + 1) rfl (by omega)) rfl ?_; clear hA a; intro a hA
  refine S.val hA (R.move rfl) rfl ?_; clear hA a; intro a hA
  refine S.done ?_
  rw [← memF_snoc, ← take_succ_getD x k (by omega)] at hM
  exact hNext ((k + 1)) _ _ ((by show x.length - (k + 1) < x.length - k; omega)) ⟨hA.sub ((.cons rfl (.cons rfl (.cons rfl (.cons rfl (.cons rfl .nil)))))), hM, (by omega)⟩
 ·
  refine Ends.exit rfl ?_
  replace hA : St 17 [(2, _), (3, _)] a := hA.sub ((.cons rfl (.cons rfl .nil)))
  refine Ends.seq (Ends.region ?_)
  refine S.val hA (R.loadA sz63 rfl (hM.range (k := 0) rfl) rfl) rfl ?_; clear hA a; intro a hA
  refine S.storeA (k := 1) hA hM sz63 rfl rfl rfl rfl rfl rfl ?_; clear hM
  intro w6 hM
  replace hM : Mem _ _ [pt b3 #[.int .u64 (loW (memF (x.take k))), .int .u64 (hiW (memF (x.take k)))] 63, pt b1 #[.int .u64 (loW (memF (x.take k))), .int .u64 (hiW (memF (x.take k)))] 63] _ := hM
  refine S.done ?_
  refine Ends.retC (k := 1) Try.func60 Try.results60 hA hM rfl rfl sz63 rfl ?_
  exact ⟨by rw [take_all (X := x) (k := k) (by omega)], Mem.trans0 hbs hM.nilL⟩
set_option maxRecDepth 100000 in
set_option maxHeartbeats 400000 in
theorem full02 (n : Nat) (h1 : 1 ≤ n) (h24 : n ≤ 24) (w : World) :
  Calls Try.prog 61 #[.int .i64 ((n : Int))] w fun e w' => e = .returned (.agg #[.int .u64 (loW (lessF n)), .int .u64 (hiW (lessF n))]) ∧ Below w.heap.size w w' := by
 have hbs := Below.refl (B := w.heap.size) w
 have hM := Mem.start w
 refine Calls.of_ends (vs := [.int .i64 ((n : Int))]) Try.func61 rfl Try.ntmps61 rfl ?_
 intro a hA
 replace hA : St 29 [(0, _)] a := hA
 refine Ends.seq (Ends.region ?_)
 refine S.alloc hA hM info63 rfl rfl ?_; clear hA hM a; intro b1 w1 hb2 hM a hA
 replace hM : Mem _ _ [pt b1 #[.int .u64 0, .int .u64 0] 63] _ := hM
 refine S.done ?_
 refine Ends.seq (Ends.region ?_)
 refine S.alloc hA hM info63 rfl rfl ?_; clear hA hM a; intro b3 w2 hb4 hM a hA
 replace hM : Mem _ _ [pt b3 #[.int .u64 0, .int .u64 0] 63, pt b1 #[.int .u64 0, .int .u64 0] 63] _ := hM
 refine S.done ?_
 refine Ends.seq (Ends.seq (Ends.region ?_))
 refine S.val hA (R.move rfl) rfl ?_; clear hA a; intro a hA
 refine S.done ?_
 refine Ends.block ?_
 refine Ends.unroll ?_
 refine Ends.seq (Ends.region ?_)
 refine S.val hA (R.tt (R.lss rfl rfl) (by first | decide | simp | omega)) rfl ?_; clear hA a; intro a hA
 refine S.done ?_
 refine Ends.seq ?_
 refine Ends.condT hA rfl ?_
 refine Ends.skip (Ends.seq (Ends.block (Ends.seq (Ends.region ?_))))
 refine S.val hA (R.move rfl) rfl ?_; clear hA a; intro a hA
 refine S.val hA (R.assign rfl) rfl ?_; clear hA a; intro a hA
 refine S.done ?_
 refine Ends.seq (Ends.region ?_)
 refine S.val hA (R.move rfl) rfl ?_; clear hA a; intro a hA
 refine S.val hA (R.max rfl rfl) rfl ?_; clear hA a; intro a hA
 refine S.val hA (R.move rfl) rfl ?_; clear hA a; intro a hA
 refine S.val hA (R.mulI rfl rfl (r := 0) rfl (by omega)) rfl ?_; clear hA a; intro a hA
 refine S.val hA (R.subI rfl rfl (r := (max ((n : Int)) 0) - 0) rfl (by omega)) rfl ?_; clear hA a; intro a hA
 refine S.val hA (R.assign rfl) rfl ?_; clear hA a; intro a hA
 refine S.done ?_
 replace hA : St 29 [(0, _), (2, _), (3, _), (4, _), (5, _), (6, _)] a := hA.sub ((.cons rfl (.cons rfl (.cons rfl (.cons rfl (.cons rfl (.cons rfl .nil)))))))
 refine Ends.block (Ends.seq (Ends.region ?_))
 refine S.val hA (R.move rfl) rfl ?_; clear hA a; intro a hA
 refine S.val hA (R.ff (R.geq rfl rfl) (by omega)) rfl ?_; clear hA a; intro a hA
 refine S.val hA (R.assign rfl) rfl ?_; clear hA a; intro a hA
 refine S.done ?_
 refine Ends.condF hA rfl ?_
 refine Ends.seq (Ends.region ?_)
 refine S.val hA (R.move rfl) rfl ?_; clear hA a; intro a hA
 refine S.val hA (R.tt (R.gtr rfl rfl) (by omega)) rfl ?_; clear hA a; intro a hA
 refine S.val hA (R.assign rfl) rfl ?_; clear hA a; intro a hA
 refine S.done ?_
 replace hA : St 29 [(0, _), (2, _), (3, _), (4, _), (5, _), (6, _), (19, _)] a := hA.sub ((.cons rfl (.cons rfl (.cons rfl (.cons rfl (.cons rfl (.cons rfl (.cons rfl .nil))))))))
 refine Ends.condT hA rfl ?_
 refine Ends.region ?_
 refine S.val hA (R.move rfl) rfl ?_; clear hA a; intro a hA
 refine S.val hA (R.move rfl) rfl ?_; clear hA a; intro a hA
 refine S.val hA (R.shl rfl rfl (by omega)) rfl ?_; clear hA a; intro a hA
 refine S.val hA (R.sub rfl rfl) rfl ?_; clear hA a; intro a hA
 refine S.val hA (R.indexAddrA (q := 0) ar63 rfl rfl (by omega) (rfl)) rfl ?_; clear hA a; intro a hA
 refine S.store (k := 0) hA hM sz45 rfl rfl rfl rfl rfl ?_; clear hM
 intro w3 hM
 replace hM : Mem _ _ [pt b3 #[.int .u64 (IntKind.u64.wrap ((IntKind.u64.wrap (1 * 2 ^ min ((max ((n : Int)) 0) - 0).toNat (IntKind.u64).bits)) - 1)), .int .u64 0] 63, pt b1 #[.int .u64 0, .int .u64 0] 63] _ := hM
 refine S.done ?_
 replace hA : St 29 [(0, _), (2, _), (3, _), (6, _)] a := hA.sub ((.cons rfl (.cons rfl (.cons rfl (.cons rfl .nil)))))
 refine Ends.inBlock (Ends.inBlock (Ends.region ?_))
 refine S.val hA (R.addI rfl rfl (r := 1) rfl (by omega)) rfl ?_; clear hA a; intro a hA
 refine S.val hA (R.move rfl) rfl ?_; clear hA a; intro a hA
 refine S.done ?_
 refine Ends.inLoop ?_
 refine Ends.seq (Ends.region ?_)
 refine S.val hA (R.tt (R.lss rfl rfl) (by first | decide | simp | omega)) rfl ?_; clear hA a; intro a hA
 refine S.done ?_
 refine Ends.seq ?_
 refine Ends.condT hA rfl ?_
 refine Ends.skip (Ends.seq (Ends.block (Ends.seq (Ends.region ?_))))
 refine S.val hA (R.move rfl) rfl ?_; clear hA a; intro a hA
 refine S.val hA (R.assign rfl) rfl ?_; clear hA a; intro a hA
 refine S.done ?_
 refine Ends.seq (Ends.region ?_)
 refine S.val hA (R.move rfl) rfl ?_; clear hA a; intro a hA
 refine S.val hA (R.max rfl rfl) rfl ?_; clear hA a; intro a hA
 refine S.val hA (R.move rfl) rfl ?_; clear hA a; intro a hA
 refine S.val hA (R.mulI rfl rfl (r := 64) rfl (by omega)) rfl ?_; clear hA a; intro a hA
 refine S.val hA (R.subI rfl rfl (r := (max ((n : Int)) 0) - 64) rfl (by omega)) rfl ?_; clear hA a; intro a hA
 refine S.val hA (R.assign rfl) rfl ?_; clear hA a; intro a hA
 refine S.done ?_
 replace hA : St 29 [(0, _), (2, _), (3, _), (4, _), (5, _), (6, _)] a := hA.sub ((.cons rfl (.cons rfl (.cons rfl (.cons rfl (.cons rfl (.cons rfl .nil)))))))
 refine Ends.block (Ends.seq (Ends.region ?_))
 refine S.val hA (R.move rfl) rfl ?_; clear hA a; intro a hA
 refine S.val hA (R.ff (R.geq rfl rfl) (by omega)) rfl ?_; clear hA a; intro a hA
 refine S.val hA (R.assign rfl) rfl ?_; clear hA a; intro a hA
 refine S.done ?_
 refine Ends.condF hA rfl ?_
 refine Ends.seq (Ends.region ?_)
 refine S.val hA (R.move rfl) rfl ?_; clear hA a; intro a hA
 refine S.val hA (R.ff (R.gtr rfl rfl) (by omega)) rfl ?_; clear hA a; intro a hA
 refine S.val hA (R.assign rfl) rfl ?_; clear hA a; intro a hA
 refine S.done ?_
 replace hA : St 29 [(0, _), (2, _), (3, _), (4, _), (5, _), (6, _), (19, _)] a := hA.sub ((.cons rfl (.cons rfl (.cons rfl (.cons rfl (.cons rfl (.cons rfl (.cons rfl .nil))))))))
 refine Ends.condF hA rfl ?_
 refine Ends.skip (Ends.inBlock (Ends.inBlock (Ends.region ?_)))
 refine S.val hA (R.addI rfl rfl (r := 2) rfl (by omega)) rfl ?_; clear hA a; intro a hA
 refine S.val hA (R.move rfl) rfl ?_; clear hA a; intro a hA
 refine S.done ?_
 replace hA : St 29 [(0, _), (2, _), (3, _), (6, _)] a := hA.sub ((.cons rfl (.cons rfl (.cons rfl (.cons rfl .nil)))))
 refine Ends.inLoop ?_
 refine Ends.seq (Ends.region ?_)
 refine S.val hA (R.ff (R.lss rfl rfl) (by first | decide | simp | omega)) rfl ?_; clear hA a; intro a hA
 refine S.done ?_
 refine Ends.seq ?_
 refine Ends.condF hA rfl ?_
 refine Ends.exit rfl ?_
 refine Ends.seq (Ends.region ?_)
 refine S.val hA (R.loadA sz63 rfl (hM.range (k := 0) rfl) rfl) rfl ?_; clear hA a; intro a hA
 refine S.storeA (k := 1) hA hM sz63 rfl rfl rfl rfl rfl rfl ?_; clear hM
 intro w4 hM
 replace hM : Mem _ _ [pt b3 #[.int .u64 (IntKind.u64.wrap ((IntKind.u64.wrap (1 * 2 ^ min ((max ((n : Int)) 0) - 0).toNat (IntKind.u64).bits)) - 1)), .int .u64 0] 63, pt b1 #[.int .u64 (IntKind.u64.wrap ((IntKind.u64.wrap (1 * 2 ^ min ((max ((n : Int)) 0) - 0).toNat (IntKind.u64).bits)) - 1)), .int .u64 0] 63] _ := hM
 refine S.done ?_
 replace hA : St 29 [(2, _)] a := hA.sub ((.cons rfl .nil))
 refine Ends.retC (k := 1) Try.func61 Try.results61 hA hM rfl rfl sz63 rfl ?_
 have e1 : (max (n : Int) 0 - 0).toNat = n := by omega
 rw [e1, full_w (n := n) (by omega)]
 exact ⟨by rw [full_hi (n := n) (by omega)], Mem.trans0 hbs hM.nilL⟩
set_option maxRecDepth 100000 in
set_option maxHeartbeats 400000 in
theorem order08 (ay : Option Addr) (x : List Int) (cy : Nat) (n : Nat) (h1 : 1 ≤ n) (h24 : n ≤ 24) (w : World) (hy : IntSl w (.slice ay x.length cy) x) :
  Calls Try.prog 42 #[.slice ay x.length cy, .int .i64 ((n : Int))] w fun e w' => e = .returned (.bool (decide (permP x n))) ∧ Below w.heap.size w w' := by
 have hbs := Below.refl (B := w.heap.size) w
 have hM := Mem.start w
 refine Calls.of_ends (vs := [.slice ay x.length cy, .int .i64 ((n : Int))]) Try.func42 rfl Try.ntmps42 rfl ?_
 intro a hA
 replace hA : St 16 [(0, _), (1, _)] a := hA
 refine Ends.seq (Ends.region ?_)
 refine S.val hA (R.assign rfl) rfl ?_; clear hA a; intro a hA
 refine S.done ?_
 refine Ends.seq ?_
 refine Ends.cut (fun (a : Act) (wv : World) => St 16 [(4, .bool (decide ((((x.length : Int)) = ((n : Int)) ∧ loW (memF x) = loW (lessF n) ∧ hiW (memF x) = hiW (lessF n)))))] a ∧ Mem w nof [] wv) ?_ (fun k2 hJ => ?_)
 ·
  clear hA hM a; rintro a w1 ⟨hA, hM⟩
  refine Ends.ret1 Try.func42 Try.results42 hA rfl ?_
  have he : ((((x.length : Int)) = ((n : Int)) ∧ loW (memF x) = loW (lessF n) ∧ hiW (memF x) = hiW (lessF n))) ↔ permP x n := by rw [← perm_set (x := x) (n := n) (by omega), set_eq]; exact ⟨fun h => ⟨by omega, h.2⟩, fun h => ⟨by omega, h.2⟩⟩
  exact ⟨congrArg (fun b => Ending.returned (.bool b)) (decide_eq_decide.2 he), Mem.trans0 hbs hM.nilL⟩
 ·
  refine Ends.region ?_
  refine S.val hA (R.move rfl) rfl ?_; clear hA a; intro a hA
  refine S.val hA (R.lenS Try.underlying22 rfl rfl) rfl ?_; clear hA a; intro a hA
  refine S.val hA (R.move rfl) rfl ?_; clear hA a; intro a hA
  refine S.val hA (R.eql rfl rfl) rfl ?_; clear hA a; intro a hA
  refine S.val hA (R.move rfl) rfl ?_; clear hA a; intro a hA
  refine hA.split (d := 9) rfl ?_ ?_
  ·
   clear hA; intro hg1 hA
   refine S.valg (dj := 9) hA (by kernel_rfl) rfl (R.move rfl) rfl ?_; clear hA a; intro a hA
   refine S.callg (dj := 9) hA (by kernel_rfl) rfl (R.callF Try.func60 rfl rfl rfl) rfl (of02 ay x cy _ (hy.mem hM)) ?_; clear hA a
   rintro e w2 ⟨rfl, hb⟩
   replace hM := hM.callB hb; clear hb
   refine ⟨.agg #[.int .u64 (loW (memF x)), .int .u64 (hiW (memF x))], rfl, fun a hA => ?_⟩
   refine S.valg (dj := 9) hA (by kernel_rfl) rfl (R.move rfl) rfl ?_; clear hA a; intro a hA
   refine S.callg (dj := 9) hA (by kernel_rfl) rfl (R.callF Try.func61 rfl rfl rfl) rfl (full02 n (by omega) (by omega) _) ?_; clear hA a
   rintro e w3 ⟨rfl, hb⟩
   replace hM := hM.callB hb; clear hb
   refine ⟨.agg #[.int .u64 (loW (lessF n)), .int .u64 (hiW (lessF n))], rfl, fun a hA => ?_⟩
   refine S.valg (dj := 9) hA (by kernel_rfl) rfl (R.eqlS (b := decide (loW (memF x) = loW (lessF n) ∧ hiW (memF x) = hiW (lessF n))) Try.eqGuardType63 (fun w => eq_set _ _ _ _ w) rfl rfl) rfl ?_; clear hA a; intro a hA
   refine S.val hA (R.pickT rfl rfl) rfl ?_; clear hA a; intro a hA
   refine S.val hA (R.assign rfl) rfl ?_; clear hA a; intro a hA
   refine S.done ?_
   replace hA : St 16 [(4, _)] a := hA.sub ((.cons rfl .nil))
   exact hJ _ _ ⟨hA.sub (.cons (by first | rfl | exact congrArg (fun b => some (Value.bool b)) (by first | exact decide_eq_decide.2 (by omega) | exact or_bool (by omega) | exact and_bool (by omega) | (simp; done) | (simp [hg1]; done) | (have h80 := hg1; (try simp at h80); simp [h80]; done) | exact (decide_eq_false (fun h9 => hg1 h9.1)).symm)) .nil), hM⟩
  ·
   clear hA; intro hg1 hA
   refine S.no (dj := 9) hA (by kernel_rfl) rfl rfl rfl ?_; clear hA a; intro a hA
   refine S.no (dj := 9) hA (by kernel_rfl) rfl rfl rfl ?_; clear hA a; intro a hA
   refine S.no (dj := 9) hA (by kernel_rfl) rfl rfl rfl ?_; clear hA a; intro a hA
   refine S.no (dj := 9) hA (by kernel_rfl) rfl rfl rfl ?_; clear hA a; intro a hA
   refine S.no (dj := 9) hA (by kernel_rfl) rfl rfl rfl ?_; clear hA a; intro a hA
   refine S.val hA (R.pickF rfl rfl) rfl ?_; clear hA a; intro a hA
   refine S.val hA (R.assign rfl) rfl ?_; clear hA a; intro a hA
   refine S.done ?_
   replace hA : St 16 [(4, _)] a := hA.sub ((.cons rfl .nil))
   exact hJ _ _ ⟨hA.sub (.cons (by first | rfl | exact congrArg (fun b => some (Value.bool b)) (by first | exact decide_eq_decide.2 (by omega) | exact or_bool (by omega) | exact and_bool (by omega) | (simp; done) | (simp [hg1]; done) | (have h80 := hg1; (try simp at h80); simp [h80]; done) | exact (decide_eq_false (fun h9 => hg1 h9.1)).symm)) .nil), hM⟩
set_option maxRecDepth 100000 in
set_option maxHeartbeats 400000 in
theorem total08 (ay : Option Addr) (x : List Int) (cy : Nat) (hl : x.length ≤ 64) (hb0 : ∀ q, 0 ≤ x.getD q 0 ∧ x.getD q 0 ≤ 2147483647) (w : World) (hy : IntSl w (.slice ay x.length cy) x) :
  Calls Try.prog 43 #[.slice ay x.length cy] w fun e w' => e = .returned (.int .i64 x.sum) ∧ Below w.heap.size w w' := by
 have hbs := Below.refl (B := w.heap.size) w
 have hM := Mem.start w
 refine Calls.of_ends (vs := [.slice ay x.length cy]) Try.func43 rfl Try.ntmps43 rfl ?_
 intro a hA
 replace hA : St 17 [(0, _)] a := hA
 refine Ends.seq (Ends.region ?_)
 refine S.val hA (R.assign rfl) rfl ?_; clear hA a; intro a hA
 refine S.done ?_
 refine Ends.seq (Ends.region ?_)
 refine S.val hA (R.assign rfl) rfl ?_; clear hA a; intro a hA
 refine S.done ?_
 refine Ends.seq (Ends.seq (Ends.region ?_))
 refine S.val hA (R.move rfl) rfl ?_; clear hA a; intro a hA
 refine S.val hA (R.lenS Try.underlying22 rfl rfl) rfl ?_; clear hA a; intro a hA
 refine S.val hA (R.move rfl) rfl ?_; clear hA a; intro a hA
 refine S.done ?_
 refine Ends.block ?_
 refine Ends.loop (σ := Nat) (fun k (a : Act) (wv : World) => St 17 [(3, .int .i64 (sumF (fun q => x.getD q 0) k)), (6, .slice ay x.length cy), (7, .int .i64 ((x.length : Int))), (8, .int .i64 ((k : Int)))] a ∧ Mem w nof [] wv ∧ (k ≤ x.length)) (fun k => x.length - k) 0 ⟨hA.sub ((.cons rfl (.cons rfl (.cons rfl (.cons rfl .nil))))), hM, (Nat.zero_le _)⟩ ?_
 clear hA hM a
 rintro k a w1 ⟨hA, hM, hk⟩ hNext
 refine Ends.seq (Ends.region ?_)
 refine S.val hA (R.lss rfl rfl) rfl ?_; clear hA a; intro a hA
 refine S.done ?_
 refine Ends.seq ?_
 refine Ends.ite hA rfl (fun hc1 => ?_) (fun hc1 => ?_)
 ·
  have hk9 := hb0 k
  have hs9 := sumF_bd (f := fun q => x.getD q 0) (B := 2147483647) (by decide) (k := k) (fun q _ => hb0 q)
  refine Ends.skip (Ends.seq (Ends.block (Ends.seq (Ends.region ?_))))
  refine S.val hA (R.idxI hy (j := k) sl22 rfl rfl (by omega) (rfl)) rfl ?_; clear hA a; intro a hA
  refine S.val hA (R.loadI (hy.mem hM) sz3 rfl (by omega)) rfl ?_; clear hA a; intro a hA
  refine S.val hA (R.assign rfl) rfl ?_; clear hA a; intro a hA
  refine S.done ?_
  refine Ends.region ?_
  refine S.val hA (R.move rfl) rfl ?_; clear hA a; intro a hA
  refine S.val hA (R.move rfl) rfl ?_; clear hA a; intro a hA
  refine S.val hA (R.addI rfl rfl (r := (sumF (fun q => x.getD q 0) k) + (x.getD k 0)) rfl (by omega)) rfl ?_; clear hA a; intro a hA
  refine S.val hA (R.assign rfl) rfl ?_; clear hA a; intro a hA
  refine S.done ?_
  replace hA : St 17 [(3, _), (6, _), (7, _), (8, _)] a := hA.sub ((.cons rfl (.cons rfl (.cons rfl (.cons rfl .nil)))))
  refine Ends.inBlock (Ends.region ?_)
  refine S.val hA (R.addI rfl rfl (r := ((k : Int)) + 1) rfl (by omega)) rfl ?_; clear hA a; intro a hA
  refine S.val hA (R.move rfl) rfl ?_; clear hA a; intro a hA
  refine S.done ?_
  exact hNext ((k + 1)) _ _ ((by show x.length - (k + 1) < x.length - k; omega)) ⟨hA.sub ((.cons rfl (.cons rfl (.cons rfl (.cons rfl .nil))))), hM, (by omega)⟩
 ·
  refine Ends.exit rfl ?_
  replace hA : St 17 [(3, _)] a := hA.sub ((.cons rfl .nil))
  refine Ends.seq (Ends.region ?_)
  refine S.val hA (R.move rfl) rfl ?_; clear hA a; intro a hA
  refine S.val hA (R.assign rfl) rfl ?_; clear hA a; intro a hA
  refine S.done ?_
  refine Ends.ret1 Try.func43 Try.results43 hA rfl ?_
  have hke : k = x.length := by omega
  exact ⟨by rw [hke, sumF_list], Mem.trans0 hbs hM.nilL⟩
set_option maxRecDepth 100000 in
set_option maxHeartbeats 400000 in
theorem max08 (ay : Option Addr) (x : List Int) (cy : Nat) (hl : 1 ≤ x.length) (hb0 : ∀ q, 0 ≤ x.getD q 0 ∧ x.getD q 0 ≤ 2147483647) (w : World) (hy : IntSl w (.slice ay x.length cy) x) :
  Calls Try.prog 44 #[.slice ay x.length cy] w fun e w' => e = .returned (.int .i64 (mxF (fun c => x.getD c 0) x.length)) ∧ Below w.heap.size w w' := by
 have hbs := Below.refl (B := w.heap.size) w
 have hlx := hy.lenB
 have hM := Mem.start w
 refine Calls.of_ends (vs := [.slice ay x.length cy]) Try.func44 rfl Try.ntmps44 rfl ?_
 intro a hA
 replace hA : St 25 [(0, _)] a := hA
 refine Ends.seq (Ends.region ?_)
 refine S.val hA (R.assign rfl) rfl ?_; clear hA a; intro a hA
 refine S.done ?_
 refine Ends.seq (Ends.seq (Ends.region ?_))
 refine S.val hA (R.move rfl) rfl ?_; clear hA a; intro a hA
 refine S.val hA (R.lenS Try.underlying22 rfl rfl) rfl ?_; clear hA a; intro a hA
 refine S.val hA (R.lss rfl rfl) rfl ?_; clear hA a; intro a hA
 refine S.done ?_
 refine Ends.ite hA rfl (fun hc1 => ?_) (fun hc1 => ?_)
 · omega
 ·
  refine Ends.skip (Ends.seq (Ends.region ?_))
  refine S.val hA (R.move rfl) rfl ?_; clear hA a; intro a hA
  refine S.val hA (R.idxI hy (j := 0) sl22 rfl rfl (by omega) (rfl)) rfl ?_; clear hA a; intro a hA
  refine S.val hA (R.loadI (hy.mem hM) sz3 rfl (by omega)) rfl ?_; clear hA a; intro a hA
  refine S.val hA (R.assign rfl) rfl ?_; clear hA a; intro a hA
  refine S.done ?_
  replace hA : St 25 [(0, _), (3, _)] a := hA.sub ((.cons rfl (.cons rfl .nil)))
  refine Ends.seq (Ends.seq (Ends.region ?_))
  refine S.val hA (R.assign rfl) rfl ?_; clear hA a; intro a hA
  refine S.done ?_
  refine Ends.block ?_
  rw [show x.getD 0 0 = mxF (fun c => x.getD c 0) 1 by have h9 := hb0 0; simp only [mxF]; omega] at hA
  refine Ends.loop (σ := Nat) (fun k (a : Act) (wv : World) => St 25 [(0, .slice ay x.length cy), (3, .int .i64 (mxF (fun c => x.getD c 0) k)), (4, .int .i64 ((k : Int)))] a ∧ Mem w nof [] wv ∧ (1 ≤ k) ∧ (k ≤ x.length)) (fun k => x.length - k) 1 ⟨hA.sub ((.cons rfl (.cons rfl (.cons rfl .nil)))), hM, (Nat.le_refl _), (by omega)⟩ ?_
  clear hA hM a
  rintro k a w1 ⟨hA, hM, hk1, hk⟩ hNext
  refine Ends.seq (Ends.seq (Ends.region ?_))
  refine S.val hA (R.move rfl) rfl ?_; clear hA a; intro a hA
  refine S.val hA (R.move rfl) rfl ?_; clear hA a; intro a hA
  refine S.val hA (R.lenS Try.underlying22 rfl rfl) rfl ?_; clear hA a; intro a hA
  refine S.val hA (R.lss rfl rfl) rfl ?_; clear hA a; intro a hA
  refine S.done ?_
  refine Ends.ite hA rfl (fun hc2 => ?_) (fun hc2 => ?_)
  ·
   refine Ends.skip (Ends.seq (Ends.block (Ends.region ?_)))
   refine S.val hA (R.move rfl) rfl ?_; clear hA a; intro a hA
   refine S.val hA (R.move rfl) rfl ?_; clear hA a; intro a hA
   refine S.val hA (R.move rfl) rfl ?_; clear hA a; intro a hA
   refine S.val hA (R.idxI hy (j := k) sl22 rfl rfl (by omega) (rfl)) rfl ?_; clear hA a; intro a hA
   refine S.val hA (R.loadI (hy.mem hM) sz3 rfl (by omega)) rfl ?_; clear hA a; intro a hA
   refine S.val hA (R.max rfl rfl) rfl ?_; clear hA a; intro a hA
   refine S.val hA (R.assign rfl) rfl ?_; clear hA a; intro a hA
   refine S.done ?_
   replace hA : St 25 [(0, _), (3, _), (4, _)] a := hA.sub ((.cons rfl (.cons rfl (.cons rfl .nil))))
   refine Ends.inBlock (Ends.region ?_)
   refine S.val hA (R.move rfl) rfl ?_; clear hA a; intro a hA
   refine S.val hA (R.addI rfl rfl (r := ((k : Int)) + 1) rfl (by omega)) rfl ?_; clear hA a; intro a hA
   refine S.val hA (R.assign rfl) rfl ?_; clear hA a; intro a hA
   refine S.done ?_
   exact hNext ((k + 1)) _ _ ((by show x.length - (k + 1) < x.length - k; omega)) ⟨hA.sub ((.cons rfl (.cons rfl (.cons rfl .nil)))), hM, (by omega), (by omega)⟩
  ·
   refine Ends.exit rfl ?_
   replace hA : St 25 [(3, _)] a := hA.sub ((.cons rfl .nil))
   refine Ends.seq (Ends.region ?_)
   refine S.val hA (R.move rfl) rfl ?_; clear hA a; intro a hA
   refine S.val hA (R.assign rfl) rfl ?_; clear hA a; intro a hA
   refine S.done ?_
   refine Ends.ret1 Try.func44 Try.results44 hA rfl ?_
   have hke : k = x.length := by omega
   exact ⟨by rw [hke], Mem.trans0 hbs hM.nilL⟩
set_option maxRecDepth 100000 in
set_option maxHeartbeats 400000 in
theorem knap08 (i : Ins) (ax3 : Option Addr) (cx3 : Nat) (ax4 : Option Addr) (cx4 : Nat) (ax5 : Option Addr) (cx5 : Nat) (ay : Option Addr) (x : List Int) (cy : Nat) (hF : InF i) (hk1 : i.kind = 1) (w : World) (hx3 : IntSl w (.slice ax3 i.wt.length cx3) i.wt) (hx4 : IntSl w (.slice ax4 i.vl.length cx4) i.vl) (hx5 : RowsV w (.slice ax5 i.cost.length cx5) i.cost) (hy : IntSl w (.slice ay x.length cy) x) :
  Calls Try.prog 41 #[.agg #[.int .i64 i.kind, .int .i64 i.n, .int .i64 i.cap, .slice ax3 i.wt.length cx3, .slice ax4 i.vl.length cx4, .slice ax5 i.cost.length cx5], .slice ay x.length cy] w fun e w' => e = .returned (.tuple #[.int .i64 (knpI i x).1, .int .i64 (knpI i x).2]) ∧ Below w.heap.size w w' := by
 have hbs := Below.refl (B := w.heap.size) w
 have f2 := hF.n1
 have f3 := hF.n64
 have f5 := hF.wt
 have f6 := hF.vl
 rw [if_pos hk1] at f5 f6
 have hlx := hy.lenB
 have hM := Mem.start w
 refine Calls.of_ends (vs := [.agg #[.int .i64 i.kind, .int .i64 i.n, .int .i64 i.cap, .slice ax3 i.wt.length cx3, .slice ax4 i.vl.length cx4, .slice ax5 i.cost.length cx5], .slice ay x.length cy]) Try.func41 rfl Try.ntmps41 rfl ?_
 intro a hA
 replace hA : St 47 [(0, _), (1, _)] a := hA
 refine Ends.seq (Ends.region ?_)
 refine S.box hA hM rfl rfl ?_; clear hA hM a; intro b1 w1 hb2 hM a hA
 replace hM : Mem _ _ [pt b1 #[.int .i64 i.kind, .int .i64 i.n, .int .i64 i.cap, .slice ax3 i.wt.length cx3, .slice ax4 i.vl.length cx4, .slice ax5 i.cost.length cx5] 25] _ := hM
 refine S.val hA (R.assign rfl) rfl ?_; clear hA a; intro a hA
 refine S.val hA (R.assign rfl) rfl ?_; clear hA a; intro a hA
 refine S.done ?_
 refine Ends.seq (Ends.seq (Ends.region ?_))
 refine S.val hA (R.move rfl) rfl ?_; clear hA a; intro a hA
 refine S.val hA (R.lenS Try.underlying22 rfl rfl) rfl ?_; clear hA a; intro a hA
 refine S.val hA (R.fieldAddr (q := 1) fi25_1 rfl rfl rfl) rfl ?_; clear hA a; intro a hA
 refine S.val hA (R.load sz3 rfl (hM.cell (k := 0) rfl rfl)) rfl ?_; clear hA a; intro a hA
 refine S.val hA (R.neq rfl rfl) rfl ?_; clear hA a; intro a hA
 refine S.done ?_
 replace hA : St 47 [(1, _), (2, _), (14, _)] a := hA.sub ((.cons rfl (.cons rfl (.cons rfl .nil))))
 refine Ends.ite hA rfl (fun hc3 => ?_) (fun hc3 => ?_)
 ·
  refine Ends.seq (Ends.region ?_)
  refine S.val hA (R.assign rfl) rfl ?_; clear hA a; intro a hA
  refine S.val hA (R.assign rfl) rfl ?_; clear hA a; intro a hA
  refine S.done ?_
  refine Ends.ret2 Try.func41 Try.results41 hA rfl rfl ?_
  have he : knpI i x = (0, 1) := if_pos hc3
  exact ⟨by rw [he], Mem.trans0 hbs hM.nilL⟩
 ·
  have hln : (x.length : Int) = i.n := Decidable.not_not.1 hc3
  refine Ends.skip (Ends.seq (Ends.region ?_))
  refine S.val hA (R.assign rfl) rfl ?_; clear hA a; intro a hA
  refine S.val hA (R.assign rfl) rfl ?_; clear hA a; intro a hA
  refine S.done ?_
  refine Ends.seq (Ends.seq (Ends.region ?_))
  refine S.val hA (R.move rfl) rfl ?_; clear hA a; intro a hA
  refine S.val hA (R.lenS Try.underlying22 rfl rfl) rfl ?_; clear hA a; intro a hA
  refine S.val hA (R.move rfl) rfl ?_; clear hA a; intro a hA
  refine S.done ?_
  refine Ends.block ?_
  refine Ends.loop (σ := Nat) (fun k (a : Act) (wv : World) => St 47 [(2, .pointer (some ⟨b1, 0, none⟩)), (6, .int .i64 (sumF (wtF i x) k)), (7, .int .i64 (sumF (vlF i x) k)), (15, .slice ay x.length cy), (16, .int .i64 ((x.length : Int))), (17, .int .i64 ((k : Int)))] a ∧ Mem w nof [pt b1 #[.int .i64 i.kind, .int .i64 i.n, .int .i64 i.cap, .slice ax3 i.wt.length cx3, .slice ax4 i.vl.length cx4, .slice ax5 i.cost.length cx5] 25] wv ∧ (k ≤ x.length) ∧ (∀ q, q < k → x.getD q 0 = 0 ∨ x.getD q 0 = 1)) (fun k => x.length - k) 0 ⟨hA.sub ((.cons rfl (.cons rfl (.cons rfl (.cons rfl (.cons rfl (.cons rfl .nil))))))), hM, (Nat.zero_le _), (fun q h => absurd h (Nat.not_lt_zero q))⟩ ?_
  clear hA hM a
  rintro k a w2 ⟨hA, hM, hk, hbit⟩ hNext
  refine Ends.seq (Ends.region ?_)
  refine S.val hA (R.lss rfl rfl) rfl ?_; clear hA a; intro a hA
  refine S.done ?_
  refine Ends.seq ?_
  refine Ends.ite hA rfl (fun hc4 => ?_) (fun hc4 => ?_)
  ·
   have g1 := hF.wtr k
   have g2 := hF.vlr k
   have s1 := wtF_bd hF x k (by omega)
   have s2 := vlF_bd hF x k (by omega)
   refine Ends.skip (Ends.seq (Ends.block (Ends.seq (Ends.region ?_))))
   refine S.val hA (R.move rfl) rfl ?_; clear hA a; intro a hA
   refine S.val hA (R.idxI hy (j := k) sl22 rfl rfl (by omega) (rfl)) rfl ?_; clear hA a; intro a hA
   refine S.val hA (R.loadI (hy.mem hM) sz3 rfl (by omega)) rfl ?_; clear hA a; intro a hA
   refine S.val hA (R.assign rfl) rfl ?_; clear hA a; intro a hA
   refine S.val hA (R.assign rfl) rfl ?_; clear hA a; intro a hA
   refine S.done ?_
   replace hA : St 47 [(2, _), (6, _), (7, _), (8, _), (9, _), (15, _), (16, _), (17, _)] a := hA.sub ((.cons rfl (.cons rfl (.cons rfl (.cons rfl (.cons rfl (.cons rfl (.cons rfl (.cons rfl .nil)))))))))
   refine Ends.seq (Ends.region ?_)
   refine S.val hA (R.move rfl) rfl ?_; clear hA a; intro a hA
   refine S.done ?_
   refine Ends.block (Ends.seq (Ends.region ?_))
   refine S.val hA (R.eql rfl rfl) rfl ?_; clear hA a; intro a hA
   refine S.val hA (R.assign rfl) rfl ?_; clear hA a; intro a hA
   refine S.done ?_
   refine Ends.ite hA rfl (fun hc5 => ?_) (fun hc5 => ?_)
   ·
    refine Ends.region ?_
    refine S.val hA (R.move rfl) rfl ?_; clear hA a; intro a hA
    refine S.val hA (R.fieldAddr (q := 3) fi25_3 rfl rfl rfl) rfl ?_; clear hA a; intro a hA
    refine S.val hA (R.load sz22 rfl (hM.cell (k := 0) rfl rfl)) rfl ?_; clear hA a; intro a hA
    refine S.val hA (R.move rfl) rfl ?_; clear hA a; intro a hA
    refine S.val hA (R.idxI hx3 (j := k) sl22 rfl rfl (by omega) (rfl)) rfl ?_; clear hA a; intro a hA
    refine S.val hA (R.loadI (hx3.mem hM) sz3 rfl (by omega)) rfl ?_; clear hA a; intro a hA
    refine S.val hA (R.addI rfl rfl (r := (sumF (wtF i x) k) + (i.wt.getD k 0)) rfl (by omega)) rfl ?_; clear hA a; intro a hA
    refine S.val hA (R.assign rfl) rfl ?_; clear hA a; intro a hA
    refine S.done ?_
    replace hA : St 47 [(2, _), (6, _), (7, _), (15, _), (16, _), (17, _)] a := hA.sub ((.cons rfl (.cons rfl (.cons rfl (.cons rfl (.cons rfl (.cons rfl .nil)))))))
    refine Ends.inBlock (Ends.inBlock (Ends.region ?_))
    refine S.val hA (R.addI rfl rfl (r := ((k : Int)) + 1) rfl (by omega)) rfl ?_; clear hA a; intro a hA
    refine S.val hA (R.move rfl) rfl ?_; clear hA a; intro a hA
    refine S.done ?_
    have hw9 : sumF (wtF i x) (k + 1) = (sumF (wtF i x) k) + (i.wt.getD k 0) := by simp only [sumF, wtF]; rw [if_pos hc5]
    have hv9 : sumF (vlF i x) (k + 1) = sumF (vlF i x) k := by simp only [sumF, vlF]; rw [if_pos hc5]; omega
    rw [← hw9, ← hv9] at hA
    exact hNext ((k + 1)) _ _ ((by show x.length - (k + 1) < x.length - k; omega)) ⟨hA.sub ((.cons rfl (.cons rfl (.cons rfl (.cons rfl (.cons rfl (.cons rfl .nil))))))), hM, (by omega), (fun q hq => by rcases Nat.lt_succ_iff_lt_or_eq.1 hq with g | g; exact hbit q g; rw [g]; exact .inr hc5)⟩
   ·
    refine Ends.seq (Ends.region ?_)
    refine S.val hA (R.eql rfl rfl) rfl ?_; clear hA a; intro a hA
    refine S.val hA (R.assign rfl) rfl ?_; clear hA a; intro a hA
    refine S.done ?_
    replace hA : St 47 [(2, _), (6, _), (7, _), (8, _), (15, _), (16, _), (17, _), (32, _)] a := hA.sub ((.cons rfl (.cons rfl (.cons rfl (.cons rfl (.cons rfl (.cons rfl (.cons rfl (.cons rfl .nil)))))))))
    refine Ends.ite hA rfl (fun hc6 => ?_) (fun hc6 => ?_)
    ·
     refine Ends.region ?_
     refine S.val hA (R.move rfl) rfl ?_; clear hA a; intro a hA
     refine S.val hA (R.fieldAddr (q := 4) fi25_4 rfl rfl rfl) rfl ?_; clear hA a; intro a hA
     refine S.val hA (R.load sz22 rfl (hM.cell (k := 0) rfl rfl)) rfl ?_; clear hA a; intro a hA
     refine S.val hA (R.move rfl) rfl ?_; clear hA a; intro a hA
     refine S.val hA (R.idxI hx4 (j := k) sl22 rfl rfl (by omega) (rfl)) rfl ?_; clear hA a; intro a hA
     refine S.val hA (R.loadI (hx4.mem hM) sz3 rfl (by omega)) rfl ?_; clear hA a; intro a hA
     refine S.val hA (R.addI rfl rfl (r := (sumF (vlF i x) k) + (i.vl.getD k 0)) rfl (by omega)) rfl ?_; clear hA a; intro a hA
     refine S.val hA (R.assign rfl) rfl ?_; clear hA a; intro a hA
     refine S.done ?_
     replace hA : St 47 [(2, _), (6, _), (7, _), (15, _), (16, _), (17, _)] a := hA.sub ((.cons rfl (.cons rfl (.cons rfl (.cons rfl (.cons rfl (.cons rfl .nil)))))))
     refine Ends.inBlock (Ends.inBlock (Ends.region ?_))
     refine S.val hA (R.addI rfl rfl (r := ((k : Int)) + 1) rfl (by omega)) rfl ?_; clear hA a; intro a hA
     refine S.val hA (R.move rfl) rfl ?_; clear hA a; intro a hA
     refine S.done ?_
     have hw9 : sumF (wtF i x) (k + 1) = sumF (wtF i x) k := by simp only [sumF, wtF]; rw [if_neg hc5]; omega
     have hv9 : sumF (vlF i x) (k + 1) = (sumF (vlF i x) k) + (i.vl.getD k 0) := by simp only [sumF, vlF]; rw [if_neg hc5]
     rw [← hw9, ← hv9] at hA
     exact hNext ((k + 1)) _ _ ((by show x.length - (k + 1) < x.length - k; omega)) ⟨hA.sub ((.cons rfl (.cons rfl (.cons rfl (.cons rfl (.cons rfl (.cons rfl .nil))))))), hM, (by omega), (fun q hq => by rcases Nat.lt_succ_iff_lt_or_eq.1 hq with g | g; exact hbit q g; rw [g]; exact .inl hc6)⟩
    ·
     refine Ends.seq (Ends.region ?_)
     refine S.val hA (R.assign rfl) rfl ?_; clear hA a; intro a hA
     refine S.val hA (R.assign rfl) rfl ?_; clear hA a; intro a hA
     refine S.done ?_
     refine Ends.ret2 Try.func41 Try.results41 hA rfl rfl ?_
     have he : knpI i x = (0, 1) := by unfold knpI; rw [if_neg (not_not_intro hln), if_pos (fun hb9 => by have h9 := hb9 k (by omega); rcases h9 with h9 | h9; exact hc6 h9; exact hc5 h9)]
     exact ⟨by rw [he], Mem.trans0 hbs hM.nilL⟩
  ·
   have hke : k = x.length := by omega
   refine Ends.exit rfl ?_
   replace hA : St 47 [(2, _), (6, _), (7, _)] a := hA.sub ((.cons rfl (.cons rfl (.cons rfl .nil))))
   refine Ends.seq (Ends.seq (Ends.region ?_))
   refine S.val hA (R.move rfl) rfl ?_; clear hA a; intro a hA
   refine S.val hA (R.fieldAddr (q := 2) fi25_2 rfl rfl rfl) rfl ?_; clear hA a; intro a hA
   refine S.val hA (R.load sz3 rfl (hM.cell (k := 0) rfl rfl)) rfl ?_; clear hA a; intro a hA
   refine S.val hA (R.gtr rfl rfl) rfl ?_; clear hA a; intro a hA
   refine S.done ?_
   replace hA : St 47 [(7, _), (45, _)] a := hA.sub ((.cons rfl (.cons rfl .nil)))
   refine Ends.ite hA rfl (fun hc7 => ?_) (fun hc7 => ?_)
   ·
    refine Ends.seq (Ends.region ?_)
    refine S.val hA (R.assign rfl) rfl ?_; clear hA a; intro a hA
    refine S.val hA (R.assign rfl) rfl ?_; clear hA a; intro a hA
    refine S.done ?_
    refine Ends.ret2 Try.func41 Try.results41 hA rfl rfl ?_
    rw [hke] at hbit
    replace hbit : bitP x x.length := hbit
    have hf9 := hc7
    rw [hke] at hf9
    have he : knpI i x = (0, 9) := by unfold knpI; rw [if_neg (not_not_intro hln), if_neg (not_not_intro hbit), if_pos hf9]
    exact ⟨by rw [he], Mem.trans0 hbs hM.nilL⟩
   ·
    refine Ends.skip (Ends.seq (Ends.region ?_))
    refine S.val hA (R.move rfl) rfl ?_; clear hA a; intro a hA
    refine S.val hA (R.assign rfl) rfl ?_; clear hA a; intro a hA
    refine S.val hA (R.assign rfl) rfl ?_; clear hA a; intro a hA
    refine S.done ?_
    refine Ends.ret2 Try.func41 Try.results41 hA rfl rfl ?_
    rw [hke] at hbit
    replace hbit : bitP x x.length := hbit
    have hf9 := hc7
    rw [hke] at hf9
    have he : knpI i x = (sumF (vlF i x) x.length, 0) := by unfold knpI; rw [if_neg (not_not_intro hln), if_neg (not_not_intro hbit), if_neg hf9]
    exact ⟨by rw [he, hke], Mem.trans0 hbs hM.nilL⟩
set_option maxRecDepth 100000 in
set_option maxHeartbeats 400000 in
theorem cost08 (i : Ins) (ax3 : Option Addr) (cx3 : Nat) (ax4 : Option Addr) (cx4 : Nat) (ax5 : Option Addr) (cx5 : Nat) (ay : Option Addr) (x : List Int) (cy : Nat) (hsm : i.wt.length ≤ 1000000 ∧ i.vl.length ≤ 1000000) (w : World) (hx3 : IntSl w (.slice ax3 i.wt.length cx3) i.wt) (hx4 : IntSl w (.slice ax4 i.vl.length cx4) i.vl) (hx5 : RowsV w (.slice ax5 i.cost.length cx5) i.cost) (hy : IntSl w (.slice ay x.length cy) x) :
  Calls Try.prog 17 #[.agg #[.int .i64 i.kind, .int .i64 i.n, .int .i64 i.cap, .slice ax3 i.wt.length cx3, .slice ax4 i.vl.length cx4, .slice ax5 i.cost.length cx5], .slice ay x.length cy] w fun e w' => e = .returned (.tuple #[.int .i64 (costI i x).1, .int .i64 (costI i x).2]) ∧ Below w.heap.size w w' := by
 have hbs := Below.refl (B := w.heap.size) w
 have hM := Mem.start w
 refine Calls.of_ends (vs := [.agg #[.int .i64 i.kind, .int .i64 i.n, .int .i64 i.cap, .slice ax3 i.wt.length cx3, .slice ax4 i.vl.length cx4, .slice ax5 i.cost.length cx5], .slice ay x.length cy]) Try.func17 rfl Try.ntmps17 rfl ?_
 intro a hA
 replace hA : St 81 [(0, _), (1, _)] a := hA
 refine Ends.seq (Ends.region ?_)
 refine S.box hA hM rfl rfl ?_; clear hA hM a; intro b1 w1 hb2 hM a hA
 replace hM : Mem _ _ [pt b1 #[.int .i64 i.kind, .int .i64 i.n, .int .i64 i.cap, .slice ax3 i.wt.length cx3, .slice ax4 i.vl.length cx4, .slice ax5 i.cost.length cx5] 25] _ := hM
 refine S.val hA (R.assign rfl) rfl ?_; clear hA a; intro a hA
 refine S.val hA (R.assign rfl) rfl ?_; clear hA a; intro a hA
 refine S.done ?_
 refine Ends.seq (Ends.region ?_)
 refine S.val hA (R.loadA sz25 rfl (hM.range (k := 0) rfl) rfl) rfl ?_; clear hA a; intro a hA
 refine S.call hA (R.callF Try.func35 rfl rfl rfl) rfl (check05 i ax3 cx3 ax4 cx4 ax5 cx5 hsm _ (hx3.mem hM) (hx4.mem hM) (hx5.mem hM)) ?_; clear hA a
 rintro e w2 ⟨rfl, hb⟩
 replace hM := hM.callB hb; clear hb
 refine ⟨.int .i64 (chk i), rfl, fun a hA => ?_⟩
 refine S.val hA (R.assign rfl) rfl ?_; clear hA a; intro a hA
 refine S.done ?_
 replace hA : St 81 [(1, _), (2, _), (6, _)] a := hA.sub ((.cons rfl (.cons rfl (.cons rfl .nil))))
 refine Ends.seq (Ends.block (Ends.seq (Ends.region ?_)))
 refine S.val hA (R.move rfl) rfl ?_; clear hA a; intro a hA
 refine S.val hA (R.neq rfl rfl) rfl ?_; clear hA a; intro a hA
 refine S.val hA (R.assign rfl) rfl ?_; clear hA a; intro a hA
 refine S.done ?_
 refine Ends.ite hA rfl (fun hc3 => ?_) (fun hc3 => ?_)
 ·
  refine Ends.seq (Ends.region ?_)
  refine S.val hA (R.move rfl) rfl ?_; clear hA a; intro a hA
  refine S.val hA (R.assign rfl) rfl ?_; clear hA a; intro a hA
  refine S.val hA (R.assign rfl) rfl ?_; clear hA a; intro a hA
  refine S.done ?_
  replace hA : St 81 [(1, _), (2, _), (4, _), (5, _)] a := hA.sub ((.cons rfl (.cons rfl (.cons rfl (.cons rfl .nil)))))
  refine Ends.ret2 Try.func17 Try.results17 hA rfl rfl ?_
  have he : costI i x = (0, chk i) := if_pos hc3
  exact ⟨by rw [he], Mem.trans0 hbs hM.nilL⟩
 ·
  have hz : chk i = 0 := Decidable.not_not.1 hc3
  have hF := chk_inF hz
  have f2 := hF.n1
  have f3 := hF.n64
  have hlx := hy.lenB
  refine Ends.seq (Ends.region ?_)
  refine S.val hA (R.fieldAddr (q := 0) fi25_0 rfl rfl rfl) rfl ?_; clear hA a; intro a hA
  refine S.val hA (R.load sz3 rfl (hM.cell (k := 0) rfl rfl)) rfl ?_; clear hA a; intro a hA
  refine S.val hA (R.eql rfl rfl) rfl ?_; clear hA a; intro a hA
  refine S.val hA (R.assign rfl) rfl ?_; clear hA a; intro a hA
  refine S.done ?_
  replace hA : St 81 [(1, _), (2, _), (16, _)] a := hA.sub ((.cons rfl (.cons rfl (.cons rfl .nil))))
  refine Ends.ite hA rfl (fun hc4 => ?_) (fun hc4 => ?_)
  ·
   have hkn := hc4
   refine Ends.seq (Ends.region ?_)
   refine S.val hA (R.loadA sz25 rfl (hM.range (k := 0) rfl) rfl) rfl ?_; clear hA a; intro a hA
   refine S.val hA (R.move rfl) rfl ?_; clear hA a; intro a hA
   refine S.call hA (R.callF Try.func41 rfl rfl rfl) rfl (knap08 i ax3 cx3 ax4 cx4 ax5 cx5 ay x cy hF hkn _ (hx3.mem hM) (hx4.mem hM) (hx5.mem hM) (hy.mem hM)) ?_; clear hA a
   rintro e w3 ⟨rfl, hb⟩
   replace hM := hM.callB hb; clear hb
   refine ⟨.tuple #[.int .i64 ((knpI i x).1), .int .i64 ((knpI i x).2)], rfl, fun a hA => ?_⟩
   refine S.val hA (R.extract (v := .int .i64 ((knpI i x).1)) rfl rfl) rfl ?_; clear hA a; intro a hA
   refine S.val hA (R.extract (v := .int .i64 ((knpI i x).2)) rfl rfl) rfl ?_; clear hA a; intro a hA
   refine S.val hA (R.assign rfl) rfl ?_; clear hA a; intro a hA
   refine S.val hA (R.assign rfl) rfl ?_; clear hA a; intro a hA
   refine S.done ?_
   replace hA : St 81 [(1, _), (2, _), (4, _), (5, _)] a := hA.sub ((.cons rfl (.cons rfl (.cons rfl (.cons rfl .nil)))))
   refine Ends.ret2 Try.func17 Try.results17 hA rfl rfl ?_
   have he : costI i x = knpI i x := by unfold costI; rw [if_neg (not_not_intro hz), if_pos hkn]
   exact ⟨by rw [he], Mem.trans0 hbs hM.nilL⟩
  ·
   have hkn := hc4
   have f4 := hF.n24 hkn
   have f7 := hF.cost
   rw [if_neg hkn] at f7
   obtain ⟨n, hn⟩ : ∃ n : Nat, i.n = (n : Int) := ⟨i.n.toNat, by omega⟩
   have hnt : i.n.toNat = n := by omega
   rw [hn] at hM
   replace hM : Mem _ _ [pt b1 #[.int .i64 i.kind, .int .i64 ((n : Int)), .int .i64 i.cap, .slice ax3 i.wt.length cx3, .slice ax4 i.vl.length cx4, .slice ax5 i.cost.length cx5] 25] _ := hM
   refine Ends.seq ?_
   refine Ends.cut (fun (a : Act) (wv : World) => St 81 [(1, .slice ay x.length cy), (2, .pointer (some ⟨b1, 0, none⟩)), (25, .bool (decide ((¬ (permP x n) ∨ (i.kind = 3 ∧ (x.getD 0 0) ≠ 0)))))] a ∧ Mem w nof [pt b1 #[.int .i64 i.kind, .int .i64 ((n : Int)), .int .i64 i.cap, .slice ax3 i.wt.length cx3, .slice ax4 i.vl.length cx4, .slice ax5 i.cost.length cx5] 25] wv) ?_ (fun k2 hJ => ?_)
   ·
    clear hA hM a; rintro a w4 ⟨hA, hM⟩
    refine Ends.ite hA rfl (fun hc5 => ?_) (fun hc5 => ?_)
    ·
     refine Ends.seq (Ends.region ?_)
     refine S.val hA (R.assign rfl) rfl ?_; clear hA a; intro a hA
     refine S.val hA (R.assign rfl) rfl ?_; clear hA a; intro a hA
     refine S.done ?_
     refine Ends.ret2 Try.func17 Try.results17 hA rfl rfl ?_
     have hno : ¬ ordP i x := fun h9 => by have h8 := h9.1; rw [hnt] at h8; rcases hc5 with g | g; exact g h8; exact g.2 (h9.2 g.1)
     have he : costI i x = (0, 1) := by unfold costI; rw [if_neg (not_not_intro hz), if_neg hkn, if_pos hno]
     exact ⟨by rw [he], Mem.trans0 hbs hM.nilL⟩
    ·
     have hp : permP x n := Classical.byContradiction fun h9 => hc5 (.inl h9)
     have ho : ordP i x := ⟨by rw [hnt]; exact hp, fun h3 => Classical.byContradiction fun h9 => hc5 (.inr ⟨h3, h9⟩)⟩
     have hlp := hp.1
     refine Ends.skip (Ends.inBlock (Ends.seq (Ends.region ?_)))
     refine S.val hA (R.assign rfl) rfl ?_; clear hA a; intro a hA
     refine S.done ?_
     refine Ends.seq (Ends.seq (Ends.region ?_))
     refine S.val hA (R.move rfl) rfl ?_; clear hA a; intro a hA
     refine S.val hA (R.lenS Try.underlying22 rfl rfl) rfl ?_; clear hA a; intro a hA
     refine S.val hA (R.move rfl) rfl ?_; clear hA a; intro a hA
     refine S.done ?_
     refine Ends.block ?_
     refine Ends.loop (σ := Nat) (fun k (a : Act) (wv : World) => St 81 [(1, .slice ay x.length cy), (2, .pointer (some ⟨b1, 0, none⟩)), (7, .int .i64 (sumF (stp i x) k)), (42, .slice ay x.length cy), (43, .int .i64 ((x.length : Int))), (44, .int .i64 ((k : Int)))] a ∧ Mem w nof [pt b1 #[.int .i64 i.kind, .int .i64 ((n : Int)), .int .i64 i.cap, .slice ax3 i.wt.length cx3, .slice ax4 i.vl.length cx4, .slice ax5 i.cost.length cx5] 25] wv ∧ (k ≤ x.length)) (fun k => x.length - k) 0 ⟨hA.sub ((.cons rfl (.cons rfl (.cons rfl (.cons rfl (.cons rfl (.cons rfl .nil))))))), hM, (Nat.zero_le _)⟩ ?_
     clear hA hM a
     rintro k a w5 ⟨hA, hM, hk⟩ hNext
     refine Ends.seq (Ends.region ?_)
     refine S.val hA (R.lss rfl rfl) rfl ?_; clear hA a; intro a hA
     refine S.done ?_
     refine Ends.seq ?_
     refine Ends.ite hA rfl (fun hc6 => ?_) (fun hc6 => ?_)
     ·
      have hkl : k < n := by omega
      have s1 := stp_bd hF x k (by omega)
      have p1 := hp.at_ hkl
      have hrw := hF.row
      have g1 := hF.row k (by omega)
      have g2 := hF.row (x.getD k 0).toNat (by omega)
      have hml := Nat.mod_lt (k + 1) (show 0 < n by omega)
      have p2 := hp.at_ hml
      have hmod : ((k : Int) + 1) % (n : Int) = (((k + 1) % n : Nat) : Int) := by push_cast; rfl
      have d1 := cl2_bd hF k (x.getD k 0)
      have d2 := cl2_bd hF (x.getD k 0) (x.getD ((k + 1) % n) 0)
      have e1 : cl2 i k (x.getD k 0) = (i.cost.getD k []).getD (x.getD k 0).toNat 0 := rfl
      have e2 : cl2 i (x.getD k 0) (x.getD ((k + 1) % n) 0) = (i.cost.getD (x.getD k 0).toNat []).getD (x.getD ((k + 1) % n) 0).toNat 0 := rfl
      refine Ends.skip (Ends.seq (Ends.block (Ends.seq (Ends.region ?_))))
      refine S.val hA (R.move rfl) rfl ?_; clear hA a; intro a hA
      refine S.val hA (R.idxI hy (j := k) sl22 rfl rfl (by first | omega | exact hmod | (rw [hmod]; omega) | (have h9 := Decidable.not_not.1 ‹¬ ¬ permP x n›; have h8 := h9.1; omega)) (rfl)) rfl ?_; clear hA a; intro a hA
      refine S.val hA (R.loadI (hy.mem hM) sz3 rfl (by first | omega | exact hmod | (rw [hmod]; omega) | (have h9 := Decidable.not_not.1 ‹¬ ¬ permP x n›; have h8 := h9.1; omega))) rfl ?_; clear hA a; intro a hA
      refine S.val hA (R.assign rfl) rfl ?_; clear hA a; intro a hA
      refine S.val hA (R.assign rfl) rfl ?_; clear hA a; intro a hA
      refine S.done ?_
      replace hA : St 81 [(1, _), (2, _), (7, _), (8, _), (9, _), (42, _), (43, _), (44, _)] a := hA.sub ((.cons rfl (.cons rfl (.cons rfl (.cons rfl (.cons rfl (.cons rfl (.cons rfl (.cons rfl .nil)))))))))
      refine Ends.seq (Ends.seq (Ends.region ?_))
      refine S.val hA (R.fieldAddr (q := 0) fi25_0 rfl rfl rfl) rfl ?_; clear hA a; intro a hA
      refine S.val hA (R.load sz3 rfl (hM.cell (k := 0) rfl rfl)) rfl ?_; clear hA a; intro a hA
      refine S.val hA (R.eql rfl rfl) rfl ?_; clear hA a; intro a hA
      refine S.done ?_
      refine Ends.ite hA rfl (fun hc7 => ?_) (fun hc7 => ?_)
      ·
       refine Ends.seq (Ends.region ?_)
       refine S.val hA (R.move rfl) rfl ?_; clear hA a; intro a hA
       refine S.val hA (R.fieldAddr (q := 5) fi25_5 rfl rfl rfl) rfl ?_; clear hA a; intro a hA
       refine S.val hA (R.load sz23 rfl (hM.cell (k := 0) rfl rfl)) rfl ?_; clear hA a; intro a hA
       refine S.val hA (R.move rfl) rfl ?_; clear hA a; intro a hA
       refine S.val hA (R.idxR hx5 (j := k) sl23 rfl rfl (by first | omega | exact hmod | (rw [hmod]; omega) | (have h9 := Decidable.not_not.1 ‹¬ ¬ permP x n›; have h8 := h9.1; omega)) (by first | omega | exact hmod | (rw [hmod]; omega) | (have h9 := Decidable.not_not.1 ‹¬ ¬ permP x n›; have h8 := h9.1; omega))) rfl ?_; clear hA a; intro a hA
       obtain ⟨ra8, rc9, hrow10, hld11⟩ := hx5.atP (i := k) (by first | omega | exact hmod | (rw [hmod]; omega) | (have h9 := Decidable.not_not.1 ‹¬ ¬ permP x n›; have h8 := h9.1; omega))
       refine S.val hA (hld11 _ _ _ _ _ _ hM sz22 rfl) rfl ?_; clear hA a; intro a hA
       refine S.val hA (R.move rfl) rfl ?_; clear hA a; intro a hA
       refine S.val hA (R.idxI hrow10 (j := (x.getD k 0).toNat) sl22 rfl rfl (by first | omega | exact hmod | (rw [hmod]; omega) | (have h9 := Decidable.not_not.1 ‹¬ ¬ permP x n›; have h8 := h9.1; omega)) (rfl)) rfl ?_; clear hA a; intro a hA
       refine S.val hA (R.loadI (hrow10.mem hM) sz3 rfl (by first | omega | exact hmod | (rw [hmod]; omega) | (have h9 := Decidable.not_not.1 ‹¬ ¬ permP x n›; have h8 := h9.1; omega))) rfl ?_; clear hA a; intro a hA
       refine S.val hA (R.addI rfl rfl (r := (sumF (stp i x) k) + (((i.cost.getD k [])).getD ((x.getD k 0).toNat) 0)) rfl (by first | omega | exact hmod | (rw [hmod]; omega) | (have h9 := Decidable.not_not.1 ‹¬ ¬ permP x n›; have h8 := h9.1; omega))) rfl ?_; clear hA a; intro a hA
       refine S.val hA (R.assign rfl) rfl ?_; clear hA a; intro a hA
       refine S.done ?_
       replace hA : St 81 [(1, _), (2, _), (7, _), (8, _), (9, _), (42, _), (43, _), (44, _)] a := hA.sub ((.cons rfl (.cons rfl (.cons rfl (.cons rfl (.cons rfl (.cons rfl (.cons rfl (.cons rfl .nil)))))))))
       refine Ends.exit rfl ?_
       refine Ends.region ?_
       refine S.val hA (R.addI rfl rfl (r := ((k : Int)) + 1) rfl (by first | omega | exact hmod | (rw [hmod]; omega) | (have h9 := Decidable.not_not.1 ‹¬ ¬ permP x n›; have h8 := h9.1; omega))) rfl ?_; clear hA a; intro a hA
       refine S.val hA (R.move rfl) rfl ?_; clear hA a; intro a hA
       refine S.done ?_
       have hs9 : sumF (stp i x) (k + 1) = (sumF (stp i x) k) + (((i.cost.getD k [])).getD ((x.getD k 0).toNat) 0) := by simp only [sumF, stp]; rw [if_pos hc7]; rfl
       rw [← hs9] at hA
       exact hNext ((k + 1)) _ _ ((by show x.length - (k + 1) < x.length - k; omega)) ⟨hA.sub ((.cons rfl (.cons rfl (.cons rfl (.cons rfl (.cons rfl (.cons rfl .nil))))))), hM, (by omega)⟩
      ·
       refine Ends.skip ?_
       refine Ends.drawn (Mem w nof [pt b1 #[.int .i64 i.kind, .int .i64 ((n : Int)), .int .i64 i.cap, .slice ax3 i.wt.length cx3, .slice ax4 i.vl.length cx4, .slice ax5 i.cost.length cx5] 25]) (.cons (0, true) (.cons (1, true) (.cons (2, true) (.cons (3, true) (.cons (4, true) (.cons (5, true) (.cons (6, true) (.cons (7, true) (.cons (8, true) (.cons (9, true) (.cons (10, true) (.cons (11, true) (.cons (12, true) (.cons (13, true) (.cons (14, true) (.cons (15, true) (.cons (16, true) (.cons (17, true) .nil)))))))))))))))))) 18 mixed (by kernel_rfl) (by kernel_rfl) (by kernel_rfl) hM.drew ?_
       replace hM := hM.drew
       refine D.valF hA rfl (fun _ => R.move rfl) rfl ?_; clear hA a; intro a hA
       refine D.valF hA rfl (fun _ => R.fieldAddr (q := 5) fi25_5 rfl rfl rfl) rfl ?_; clear hA a; intro a hA
       refine D.val hA rfl (by kernel_rfl) (fun _ hM => R.load sz23 rfl (hM.cell (k := 0) rfl rfl)) rfl ?_; clear hA a; intro a hA
       refine D.valF hA rfl (fun _ => R.move rfl) rfl ?_; clear hA a; intro a hA
       refine D.valF hA rfl (fun _ => R.idxR hx5 (j := (x.getD k 0).toNat) sl23 rfl rfl (by first | omega | exact hmod | (rw [hmod]; omega) | (have h9 := Decidable.not_not.1 ‹¬ ¬ permP x n›; have h8 := h9.1; omega)) (rfl)) rfl ?_; clear hA a; intro a hA
       obtain ⟨ra12, rc13, hrow14, hld15⟩ := hx5.atP (i := (x.getD k 0).toNat) (by first | omega | exact hmod | (rw [hmod]; omega) | (have h9 := Decidable.not_not.1 ‹¬ ¬ permP x n›; have h8 := h9.1; omega))
       refine D.val hA rfl (by kernel_rfl) (fun _ hM => hld15 _ _ _ _ _ _ hM sz22 rfl) rfl ?_; clear hA a; intro a hA
       refine D.valF hA rfl (fun _ => R.move rfl) rfl ?_; clear hA a; intro a hA
       refine D.valF hA rfl (fun _ => R.move rfl) rfl ?_; clear hA a; intro a hA
       refine D.valF hA rfl (fun _ => R.addI rfl rfl (r := ((k : Int)) + 1) rfl (by first | omega | exact hmod | (rw [hmod]; omega) | (have h9 := Decidable.not_not.1 ‹¬ ¬ permP x n›; have h8 := h9.1; omega))) rfl ?_; clear hA a; intro a hA
       refine D.valF hA rfl (fun _ => R.fieldAddr (q := 1) fi25_1 rfl rfl rfl) rfl ?_; clear hA a; intro a hA
       refine D.val hA rfl (by kernel_rfl) (fun _ hM => R.load sz3 rfl (hM.cell (k := 0) rfl rfl)) rfl ?_; clear hA a; intro a hA
       refine D.valF hA rfl (fun _ => R.remI rfl rfl (r := (((k + 1) % n : Nat) : Int)) (by first | omega | exact hmod | (rw [hmod]; omega) | (have h9 := Decidable.not_not.1 ‹¬ ¬ permP x n›; have h8 := h9.1; omega)) (by first | omega | exact hmod | (rw [hmod]; omega) | (have h9 := Decidable.not_not.1 ‹¬ ¬ permP x n›; have h8 := h9.1; omega))) rfl ?_; clear hA a; intro a hA
       refine D.valF hA rfl (fun _ => R.idxI hy (j := ((k + 1) % n)) sl22 rfl rfl (by first | omega | exact hmod | (rw [hmod]; omega) | (have h9 := Decidable.not_not.1 ‹¬ ¬ permP x n›; have h8 := h9.1; omega)) (by first | omega | exact hmod | (rw [hmod]; omega) | (have h9 := Decidable.not_not.1 ‹¬ ¬ permP x n›; have h8 := h9.1; omega))) rfl ?_; clear hA a; intro a hA
       refine D.val hA rfl (by kernel_rfl) (fun _ hM => R.loadI (hy.mem hM) sz3 rfl (by first | omega | exact hmod | (rw [hmod]; omega) | (have h9 := Decidable.not_not.1 ‹¬ ¬ permP x n›; have h8 := h9.1; omega))) rfl ?_; clear hA a; intro a hA
       refine D.valF hA rfl (fun _ => R.idxI hrow14 (j := (x.getD (((k + 1) % n)) 0).toNat) sl22 rfl rfl (by first | omega | exact hmod | (rw [hmod]; omega) | (have h9 := Decidable.not_not.1 ‹¬ ¬ permP x n›; have h8 := h9.1; omega)) (rfl)) rfl ?_; clear hA a; intro a hA
       refine D.val hA rfl (by kernel_rfl) (fun _ hM => R.loadI (hrow14.mem hM) sz3 rfl (by first | omega | exact hmod | (rw [hmod]; omega) | (have h9 := Decidable.not_not.1 ‹¬ ¬ permP x n›; have h8 := h9.1; omega))) rfl ?_; clear hA a; intro a hA
       refine D.valF hA rfl (fun _ => R.addI rfl rfl (r := (sumF (stp i x) k) + (((i.cost.getD ((x.getD k 0).toNat) [])).getD ((x.getD (((k + 1) % n)) 0).toNat) 0)) rfl (by first | omega | exact hmod | (rw [hmod]; omega) | (have h9 := Decidable.not_not.1 ‹¬ ¬ permP x n›; have h8 := h9.1; omega))) rfl ?_; clear hA a; intro a hA
       refine D.valF hA rfl (fun _ => R.assign rfl) rfl ?_; clear hA a; intro a hA
       refine D.done ?_
       replace hA : St 81 [(1, _), (2, _), (7, _), (42, _), (43, _), (44, _)] a := hA.sub ((.cons rfl (.cons rfl (.cons rfl (.cons rfl (.cons rfl (.cons rfl .nil)))))))
       refine Ends.inBlock (Ends.region ?_)
       refine S.val hA (R.addI rfl rfl (r := ((k : Int)) + 1) rfl (by first | omega | exact hmod | (rw [hmod]; omega) | (have h9 := Decidable.not_not.1 ‹¬ ¬ permP x n›; have h8 := h9.1; omega))) rfl ?_; clear hA a; intro a hA
       refine S.val hA (R.move rfl) rfl ?_; clear hA a; intro a hA
       refine S.done ?_
       have hs9 : sumF (stp i x) (k + 1) = (sumF (stp i x) k) + (((i.cost.getD ((x.getD k 0).toNat) [])).getD ((x.getD (((k + 1) % n)) 0).toNat) 0) := by simp only [sumF, stp]; rw [if_neg hc7]; rw [hnt]; rfl
       rw [← hs9] at hA
       exact hNext ((k + 1)) _ _ ((by show x.length - (k + 1) < x.length - k; omega)) ⟨hA.sub ((.cons rfl (.cons rfl (.cons rfl (.cons rfl (.cons rfl (.cons rfl .nil))))))), hM, (by omega)⟩
     ·
      have hke : k = i.n.toNat := by omega
      refine Ends.exit rfl ?_
      replace hA : St 81 [(7, _)] a := hA.sub ((.cons rfl .nil))
      refine Ends.seq (Ends.region ?_)
      refine S.val hA (R.move rfl) rfl ?_; clear hA a; intro a hA
      refine S.val hA (R.assign rfl) rfl ?_; clear hA a; intro a hA
      refine S.val hA (R.assign rfl) rfl ?_; clear hA a; intro a hA
      refine S.done ?_
      refine Ends.ret2 Try.func17 Try.results17 hA rfl rfl ?_
      have he : costI i x = (sumF (stp i x) i.n.toNat, 0) := by unfold costI; rw [if_neg (not_not_intro hz), if_neg hkn, if_neg (not_not_intro ho)]
      exact ⟨by rw [he, hke], Mem.trans0 hbs hM.nilL⟩
   ·
    refine Ends.region ?_
    refine S.val hA (R.move rfl) rfl ?_; clear hA a; intro a hA
    refine S.val hA (R.fieldAddr (q := 1) fi25_1 rfl rfl rfl) rfl ?_; clear hA a; intro a hA
    refine S.val hA (R.load sz3 rfl (hM.cell (k := 0) rfl rfl)) rfl ?_; clear hA a; intro a hA
    refine S.call hA (R.callF Try.func42 rfl rfl rfl) rfl (order08 ay x cy n (by omega) (by omega) _ (hy.mem hM)) ?_; clear hA a
    rintro e w6 ⟨rfl, hb⟩
    replace hM := hM.callB hb; clear hb
    refine ⟨.bool (decide (permP x n)), rfl, fun a hA => ?_⟩
    refine S.val hA (R.notD rfl) rfl ?_; clear hA a; intro a hA
    refine S.val hA (R.move rfl) rfl ?_; clear hA a; intro a hA
    refine hA.split (d := 31) rfl ?_ ?_
    ·
     clear hA; intro hg16 hA
     refine S.no (dj := 31) hA (by kernel_rfl) rfl rfl rfl ?_; clear hA a; intro a hA
     refine S.no (dj := 31) hA (by kernel_rfl) rfl rfl rfl ?_; clear hA a; intro a hA
     refine S.no (dj := 31) hA (by kernel_rfl) rfl rfl rfl ?_; clear hA a; intro a hA
     refine S.no (dj := 31) hA (by kernel_rfl) rfl rfl rfl ?_; clear hA a; intro a hA
     refine S.noU (dj := 35) hA (by kernel_rfl) rfl rfl ?_; clear hA a; intro a hA
     refine S.noU (dj := 35) hA (by kernel_rfl) rfl rfl ?_; clear hA a; intro a hA
     refine S.noU (dj := 35) hA (by kernel_rfl) rfl rfl ?_; clear hA a; intro a hA
     refine S.noU (dj := 35) hA (by kernel_rfl) rfl rfl ?_; clear hA a; intro a hA
     refine S.no (dj := 31) hA (by kernel_rfl) rfl rfl rfl ?_; clear hA a; intro a hA
     refine S.val hA (R.pickT rfl rfl) rfl ?_; clear hA a; intro a hA
     refine S.val hA (R.assign rfl) rfl ?_; clear hA a; intro a hA
     refine S.done ?_
     replace hA : St 81 [(1, _), (2, _), (25, _)] a := hA.sub ((.cons rfl (.cons rfl (.cons rfl .nil))))
     exact hJ _ _ ⟨hA.sub (.cons rfl (.cons rfl (.cons (by first | rfl | exact congrArg (fun b => some (Value.bool b)) (by first | exact decide_eq_decide.2 (by omega) | exact or_bool (by omega) | exact and_bool (by omega) | (simp; done) | (simp [hg16]; done) | (have h80 := hg16; (try simp at h80); simp [h80]; done) | exact (decide_eq_false (fun h9 => hg16 h9.1)).symm)) .nil))), hM⟩
    ·
     clear hA; intro hg16 hA
     refine S.valg (dj := 31) hA (by kernel_rfl) rfl (R.fieldAddr (q := 0) fi25_0 rfl rfl rfl) rfl ?_; clear hA a; intro a hA
     refine S.valg (dj := 31) hA (by kernel_rfl) rfl (R.load sz3 rfl (hM.cell (k := 0) rfl rfl)) rfl ?_; clear hA a; intro a hA
     refine S.valg (dj := 31) hA (by kernel_rfl) rfl (R.eql rfl rfl) rfl ?_; clear hA a; intro a hA
     refine S.valg (dj := 31) hA (by kernel_rfl) rfl (R.move rfl) rfl ?_; clear hA a; intro a hA
     refine hA.split (d := 35) rfl ?_ ?_
     ·
      clear hA; intro hg17 hA
      refine S.valg (dj := 35) hA (by kernel_rfl) rfl (R.move rfl) rfl ?_; clear hA a; intro a hA
      refine S.valg (dj := 35) hA (by kernel_rfl) rfl (R.idxI hy (j := 0) sl22 rfl rfl (by first | omega | exact hmod | (rw [hmod]; omega) | (have h9 := Decidable.not_not.1 ‹¬ ¬ permP x n›; have h8 := h9.1; omega)) (rfl)) rfl ?_; clear hA a; intro a hA
      refine S.valg (dj := 35) hA (by kernel_rfl) rfl (R.loadI (hy.mem hM) sz3 rfl (by first | omega | exact hmod | (rw [hmod]; omega) | (have h9 := Decidable.not_not.1 ‹¬ ¬ permP x n›; have h8 := h9.1; omega))) rfl ?_; clear hA a; intro a hA
      refine S.valg (dj := 35) hA (by kernel_rfl) rfl (R.neq rfl rfl) rfl ?_; clear hA a; intro a hA
      refine S.valg (dj := 31) hA (by kernel_rfl) rfl (R.pickT rfl rfl) rfl ?_; clear hA a; intro a hA
      refine S.val hA (R.pickF rfl rfl) rfl ?_; clear hA a; intro a hA
      refine S.val hA (R.assign rfl) rfl ?_; clear hA a; intro a hA
      refine S.done ?_
      replace hA : St 81 [(1, _), (2, _), (25, _)] a := hA.sub ((.cons rfl (.cons rfl (.cons rfl .nil))))
      exact hJ _ _ ⟨hA.sub (.cons rfl (.cons rfl (.cons (by first | rfl | exact congrArg (fun b => some (Value.bool b)) (by first | exact decide_eq_decide.2 (by omega) | exact or_bool (by omega) | exact and_bool (by omega) | (simp; done) | (simp [hg16, hg17]; done) | (have h80 := hg16; (try simp at h80); have h81 := hg17; (try simp at h81); simp [h80, h81]; done) | exact (decide_eq_false (fun h9 => hg16 h9.1)).symm | exact (decide_eq_false (fun h9 => hg17 h9.1)).symm)) .nil))), hM⟩
     ·
      clear hA; intro hg17 hA
      refine S.no (dj := 35) hA (by kernel_rfl) rfl rfl rfl ?_; clear hA a; intro a hA
      refine S.no (dj := 35) hA (by kernel_rfl) rfl rfl rfl ?_; clear hA a; intro a hA
      refine S.no (dj := 35) hA (by kernel_rfl) rfl rfl rfl ?_; clear hA a; intro a hA
      refine S.no (dj := 35) hA (by kernel_rfl) rfl rfl rfl ?_; clear hA a; intro a hA
      refine S.valg (dj := 31) hA (by kernel_rfl) rfl (R.pickF rfl rfl) rfl ?_; clear hA a; intro a hA
      refine S.val hA (R.pickF rfl rfl) rfl ?_; clear hA a; intro a hA
      refine S.val hA (R.assign rfl) rfl ?_; clear hA a; intro a hA
      refine S.done ?_
      replace hA : St 81 [(1, _), (2, _), (25, _)] a := hA.sub ((.cons rfl (.cons rfl (.cons rfl .nil))))
      exact hJ _ _ ⟨hA.sub (.cons rfl (.cons rfl (.cons (by first | rfl | exact congrArg (fun b => some (Value.bool b)) (by first | exact decide_eq_decide.2 (by omega) | exact or_bool (by omega) | exact and_bool (by omega) | (simp; done) | (simp [hg16, hg17]; done) | (have h80 := hg16; (try simp at h80); have h81 := hg17; (try simp at h81); simp [h80, h81]; done) | exact (decide_eq_false (fun h9 => hg16 h9.1)).symm | exact (decide_eq_false (fun h9 => hg17 h9.1)).symm)) .nil))), hM⟩
end Go.Proofs.Ytnikajkklocncaa
namespace Go.Proofs.Ytnikajkklocncaa
theorem permP.perm {x y : List Int} {n : Nat} (h : permP x n) (h' : permP y n) : x.Perm y := by
  refine List.perm_iff_count.2 (fun a => ?_)
  by_cases ha : 0 ≤ a ∧ a < n
  · obtain ⟨k, rfl⟩ : ∃ k : Nat, a = k := ⟨a.toNat, by omega⟩
    rw [h.2 k (by omega), h'.2 k (by omega)]
  · rw [List.count_eq_zero.2 (fun q => ha (h.mem q)), List.count_eq_zero.2 (fun q => ha (h'.mem q))]
theorem mat_cell' {n r c : Nat} {g : Nat → Nat → Int} (hr : r < n) (hc : c < n) : ((mat n g).getD r []).getD c 0 = g r c := by
  rw [mat_row hr]; simp [List.getD, hc]
theorem sumF_front (f : Nat → Int) : ∀ n, sumF f (n + 1) = f 0 + sumF (fun q => f (q + 1)) n
  | 0 => by simp [sumF]
  | n + 1 => by
    have := sumF_front f n
    simp only [sumF] at this ⊢
    omega
theorem sumF_rev (f : Nat → Int) : ∀ n, sumF (fun q => f (n - 1 - q)) n = sumF f n
  | 0 => rfl
  | n + 1 => by
    rw [sumF_front]
    have h := sumF_rev f n
    have e : sumF (fun q => f (n + 1 - 1 - (q + 1))) n = sumF (fun q => f (n - 1 - q)) n := sumF_congr (fun q _ => by rw [show n + 1 - 1 - (q + 1) = n - 1 - q by omega])
    rw [e, h]
    simp only [sumF, Nat.add_sub_cancel, Nat.sub_zero]
    omega
def cel (i : Ins) (r c : Nat) : Int := (i.cost.getD r []).getD c 0
theorem cost_mat {i : Ins} (hF : InF i) (hk : i.kind ≠ 1) : i.cost = mat i.n.toNat (cel i) := by
  have hl := hF.cost
  rw [if_neg hk] at hl
  refine List.ext_getElem (by rw [hl, mat_len]) (fun r h1 h2 => ?_)
  have e1 : i.cost[r] = i.cost.getD r [] := by simp [List.getD, h1]
  have e2 : (mat i.n.toNat (cel i))[r] = (mat i.n.toNat (cel i)).getD r [] := by simp [List.getD, h2]
  rw [e1, e2, mat_row (by omega)]
  have hr := hF.row r h1
  refine List.ext_getElem (by rw [hr]; simp) (fun c g1 g2 => ?_)
  simp only [List.getElem_map, List.getElem_range]
  unfold cel
  rw [List.getD_eq_getElem?_getD (l := i.cost.getD r []), List.getElem?_eq_getElem g1]; rfl
def revI (i : Ins) : Ins := { i with cost := mat i.n.toNat fun r c => cel i (i.n.toNat - 1 - r) c }
def symI (i : Ins) : Ins := { i with cost := mat i.n.toNat fun r c => cel i (min r c) (max r c) }
def revX (x : List Int) (n : Nat) : List Int := (List.range n).map fun q => x.getD (n - 1 - q) 0
def turX (x : List Int) (n : Nat) : List Int := 0 :: (List.range (n - 1)).map fun q => x.getD (n - 1 - q) 0
theorem revX_get {x : List Int} {n q : Nat} (h : q < n) : (revX x n).getD q 0 = x.getD (n - 1 - q) 0 := by simp [revX, List.getD, h]
theorem turX_get {x : List Int} {n q : Nat} (h0 : x.getD 0 0 = 0) (h : q < n) : (turX x n).getD q 0 = x.getD ((n - q) % n) 0 := by
  cases q with
  | zero => rw [Nat.sub_zero, Nat.mod_self, h0]; rfl
  | succ q =>
    rw [Nat.mod_eq_of_lt (by omega)]
    have : q < n - 1 := by omega
    simp [turX, List.getD, this]
    rw [show n - 1 - q = n - (q + 1) by omega]
theorem perm_of {x y : List Int} {n : Nat} (h : permP x n) (p : y.Perm x) : permP y n := ⟨by rw [p.length_eq, h.1], fun k hk => by rw [p.count_eq, h.2 k hk]⟩
theorem revX_eq {x : List Int} {n : Nat} (h : x.length = n) : revX x n = x.reverse := by
  subst h
  refine List.ext_getElem (by simp [revX]) (fun q h1 h2 => ?_)
  have : q < x.length := by simpa using h2
  simp [revX, List.getElem_reverse, List.getD, show x.length - 1 - q < x.length by omega]
theorem revX_perm {x : List Int} {n : Nat} (h : permP x n) : permP (revX x n) n := by
  rw [revX_eq h.1]; exact perm_of h (List.reverse_perm x)
theorem turX_perm {x : List Int} {n : Nat} (h : permP x n) (hn : 1 ≤ n) (h0 : x.getD 0 0 = 0) : permP (turX x n) n := by
  have hl := h.1
  match x, hl with
  | [], hl => exact absurd hl (by simp; omega)
  | a :: l, hl =>
    have ha : a = 0 := h0
    subst ha
    have e : turX (0 :: l) n = 0 :: l.reverse := by
      unfold turX
      congr 1
      have hl2 : l.length = n - 1 := by rw [List.length_cons] at hl; omega
      rw [← revX_eq hl2]
      unfold revX
      refine List.map_congr_left (fun q hq => ?_)
      have := List.mem_range.1 hq
      rw [show n - 1 - q = (n - 1 - 1 - q) + 1 by omega, List.getD_cons_succ]
    rw [e]
    exact perm_of h ((List.reverse_perm l).cons 0)
theorem rev_cost {i : Ins} (hk : i.kind = 2) {x : List Int} (h : permP x i.n.toNat) : sumF (stp (revI i) (revX x i.n.toNat)) i.n.toNat = sumF (stp i x) i.n.toNat := by
  rw [← sumF_rev (stp i x)]
  refine sumF_congr (fun q hq => ?_)
  unfold stp
  rw [if_pos (show (revI i).kind = 2 from hk), if_pos hk, revX_get hq]
  have hp := h.at_ (q := i.n.toNat - 1 - q) (by omega)
  unfold cl2
  show ((mat i.n.toNat _).getD _ []).getD _ 0 = _
  rw [Int.toNat_natCast, mat_cell' hq (by omega), Int.toNat_natCast]
  rfl
theorem tur_cost {i : Ins} (hk : i.kind = 3) (hn : 1 ≤ i.n.toNat) {x : List Int} (h : permP x i.n.toNat) (h0 : x.getD 0 0 = 0) : sumF (stp (symI i) (turX x i.n.toNat)) i.n.toNat = sumF (stp (symI i) x) i.n.toNat := by
  rw [← sumF_rev (stp (symI i) x)]
  generalize hN : i.n.toNat = n at *
  refine sumF_congr (fun q hq => ?_)
  unfold stp
  have hk2 : ¬ (symI i).kind = 2 := by show ¬ i.kind = 2; omega
  have en : (symI i).n.toNat = n := hN
  rw [if_neg hk2, if_neg hk2, en, turX_get h0 hq, turX_get h0 (Nat.mod_lt _ hn)]
  have e1 : (n - (q + 1) % n) % n = n - 1 - q := by
    rcases Nat.lt_or_ge (q + 1) n with g | g
    · rw [Nat.mod_eq_of_lt g, Nat.mod_eq_of_lt (by omega)]; omega
    · rw [show q + 1 = n by omega, Nat.mod_self, Nat.sub_zero, Nat.mod_self]; omega
  have e2 : (n - 1 - q + 1) % n = (n - q) % n := by rw [show n - 1 - q + 1 = n - q by omega]
  rw [e1, e2]
  have p1 := h.at_ (q := (n - q) % n) (Nat.mod_lt _ hn)
  have p2 := h.at_ (q := n - 1 - q) (by omega)
  have key : ∀ a b : Int, 0 ≤ a ∧ a < n → 0 ≤ b ∧ b < n → cl2 (symI i) a b = cel i (min a.toNat b.toNat) (max a.toNat b.toNat) := fun a b ha hb => by
    unfold cl2
    show ((mat i.n.toNat _).getD _ []).getD _ 0 = _
    rw [hN, mat_cell' (by omega) (by omega)]
  rw [key _ _ p1 p2, key _ _ p2 p1, Nat.min_comm, Nat.max_comm]
end Go.Proofs.Ytnikajkklocncaa
namespace Go.Proofs.Ytnikajkklocncaa
open Go.RowKit
theorem costI_chk {i : Ins} {x : List Int} (h : (costI i x).2 = 0) : chk i = 0 := by
  refine Decidable.byContradiction fun g => ?_
  unfold costI at h
  rw [if_pos g] at h
  exact g h
theorem costI_or {i : Ins} {x : List Int} (h : chk i = 0) (hk : ¬ i.kind = 1) : costI i x = if ¬ ordP i x then (0, 1) else (sumF (stp i x) i.n.toNat, 0) := by unfold costI; rw [if_neg (not_not_intro h), if_neg hk]
theorem pln_len {i : Ins} (h : chk i = 0) : (plnI i).length = i.n.toNat := by
  unfold plnI; rw [if_neg (not_not_intro h)]; split
  · exact List.length_replicate
  · simp
theorem pln_no {i : Ins} (h : ¬ chk i = 0) : plnI i = [] := if_pos h
theorem pln_kn {i : Ins} (h : chk i = 0) (hk : i.kind = 1) : List.replicate i.n.toNat 0 = plnI i := by unfold plnI; rw [if_neg (not_not_intro h), if_pos hk]
theorem pln_or {i : Ins} (h : chk i = 0) (hk : ¬ i.kind = 1) : (List.range i.n.toNat).map Int.ofNat = plnI i := by unfold plnI; rw [if_neg (not_not_intro h), if_neg hk]
theorem fil_set (n k : Nat) (h : k < n) : ((List.range k).map Int.ofNat ++ List.replicate (n - k) 0).set k (k : Int) = (List.range (k + 1)).map Int.ofNat ++ List.replicate (n - (k + 1)) 0 := by
  rw [List.set_append_right _ _ (by simp), List.range_succ, List.map_append, List.append_assoc]
  simp only [List.length_map, List.length_range, Nat.sub_self]
  rw [show n - k = (n - (k + 1)) + 1 by omega, List.replicate_succ, List.set_cons_zero]
  rfl
theorem fil_len (n k : Nat) (h : k ≤ n) : ((List.range k).map Int.ofNat ++ List.replicate (n - k) (0 : Int)).length = n := by
  rw [List.length_append, List.length_map, List.length_range, List.length_replicate]; omega
theorem fil_all (n k : Nat) (h : k = n) : (List.range k).map Int.ofNat ++ List.replicate (n - k) (0 : Int) = (List.range n).map Int.ofNat := by subst h; simp
theorem fil_zero (n : Nat) : List.replicate n (0 : Int) = (List.range 0).map Int.ofNat ++ List.replicate (n - 0) 0 := rfl
set_option maxRecDepth 100000 in
set_option maxHeartbeats 400000 in
theorem plain08 (i : Ins) (ax3 : Option Addr) (cx3 : Nat) (ax4 : Option Addr) (cx4 : Nat) (ax5 : Option Addr) (cx5 : Nat) (hsm : i.wt.length ≤ 1000000 ∧ i.vl.length ≤ 1000000) (w : World) (hx3 : IntSl w (.slice ax3 i.wt.length cx3) i.wt) (hx4 : IntSl w (.slice ax4 i.vl.length cx4) i.vl) (hx5 : RowsV w (.slice ax5 i.cost.length cx5) i.cost) :
  Calls Try.prog 14 #[.agg #[.int .i64 i.kind, .int .i64 i.n, .int .i64 i.cap, .slice ax3 i.wt.length cx3, .slice ax4 i.vl.length cx4, .slice ax5 i.cost.length cx5]] w fun e w' => ∃ a c, e = .returned (.slice a ((plnI i)).length c) ∧ IntSl w' (.slice a ((plnI i)).length c) ((plnI i)) ∧ Below w.heap.size w w' := by
 have hbs := Below.refl (B := w.heap.size) w
 have hM := Mem.start w
 refine Calls.of_ends (vs := [.agg #[.int .i64 i.kind, .int .i64 i.n, .int .i64 i.cap, .slice ax3 i.wt.length cx3, .slice ax4 i.vl.length cx4, .slice ax5 i.cost.length cx5]]) Try.func14 rfl Try.ntmps14 rfl ?_
 intro a hA
 replace hA : St 25 [(0, _)] a := hA
 refine Ends.seq (Ends.region ?_)
 refine S.box hA hM rfl rfl ?_; clear hA hM a; intro b1 w1 hb2 hM a hA
 replace hM : Mem _ _ [pt b1 #[.int .i64 i.kind, .int .i64 i.n, .int .i64 i.cap, .slice ax3 i.wt.length cx3, .slice ax4 i.vl.length cx4, .slice ax5 i.cost.length cx5] 25] _ := hM
 refine S.val hA (R.assign rfl) rfl ?_; clear hA a; intro a hA
 refine S.done ?_
 refine Ends.seq (Ends.seq (Ends.region ?_))
 refine S.val hA (R.loadA sz25 rfl (hM.range (k := 0) rfl) rfl) rfl ?_; clear hA a; intro a hA
 refine S.call hA (R.callF Try.func35 rfl rfl rfl) rfl (check05 i ax3 cx3 ax4 cx4 ax5 cx5 hsm _ (hx3.mem hM) (hx4.mem hM) (hx5.mem hM)) ?_; clear hA a
 rintro e w2 ⟨rfl, hb⟩
 replace hM := hM.callB hb; clear hb
 refine ⟨.int .i64 (chk i), rfl, fun a hA => ?_⟩
 refine S.val hA (R.neq rfl rfl) rfl ?_; clear hA a; intro a hA
 refine S.done ?_
 replace hA : St 25 [(1, _), (7, _)] a := hA.sub ((.cons rfl (.cons rfl .nil)))
 refine Ends.ite hA rfl (fun hc3 => ?_) (fun hc3 => ?_)
 ·
  refine Ends.seq (Ends.region ?_)
  refine S.val hA (R.assign rfl) rfl ?_; clear hA a; intro a hA
  refine S.done ?_
  refine Ends.ret1 Try.func14 Try.results14 hA rfl ?_
  have he := pln_no hc3
  exact ⟨none, 0, by rw [he]; rfl, by rw [he]; exact IntSl.nil _, Mem.trans0 hbs hM.nilL⟩
 ·
  have hz : chk i = 0 := Decidable.not_not.1 hc3
  have hF := chk_inF hz
  have f2 := hF.n1
  have f3 := hF.n64
  have f5 := hF.wt
  have f6 := hF.vl
  have f7 := hF.cost
  have hlx0 := inF_len hF
  refine Ends.skip (Ends.seq (Ends.region ?_))
  refine S.val hA (R.fieldAddr (q := 1) fi25_1 rfl rfl rfl) rfl ?_; clear hA a; intro a hA
  refine S.val hA (R.load sz3 rfl (hM.cell (k := 0) rfl rfl)) rfl ?_; clear hA a; intro a hA
  refine S.make hA hM Try.underlying22 info3 rfl rfl rfl (by first | omega | (rw [fil_len _ _ (by omega)]; omega)) (by show (8 : Int) * _ ≤ _; omega) (by first | omega | (rw [fil_len _ _ (by omega)]; omega)) rfl ?_; clear hA hM a; intro b4 w3 hb5 hM a hA
  replace hM : Mem _ _ [pt b4 (madeCells #[.int .i64 0] (i.n.toNat * 1)) 3, pt b1 #[.int .i64 i.kind, .int .i64 i.n, .int .i64 i.cap, .slice ax3 i.wt.length cx3, .slice ax4 i.vl.length cx4, .slice ax5 i.cost.length cx5] 25] _ := hM
  rw [Nat.mul_one, made_ints] at hM
  replace hM : Mem _ _ [pt b4 ((ints (List.replicate i.n.toNat 0))) 3, pt b1 #[.int .i64 i.kind, .int .i64 i.n, .int .i64 i.cap, .slice ax3 i.wt.length cx3, .slice ax4 i.vl.length cx4, .slice ax5 i.cost.length cx5] 25] _ := hM
  refine S.val hA (R.assign rfl) rfl ?_; clear hA a; intro a hA
  refine S.done ?_
  replace hA : St 25 [(1, _), (3, _)] a := hA.sub ((.cons rfl (.cons rfl .nil)))
  refine Ends.seq (Ends.seq (Ends.region ?_))
  refine S.val hA (R.fieldAddr (q := 0) fi25_0 rfl rfl rfl) rfl ?_; clear hA a; intro a hA
  refine S.val hA (R.load sz3 rfl (hM.cell (k := 1) rfl rfl)) rfl ?_; clear hA a; intro a hA
  refine S.val hA (R.neq rfl rfl) rfl ?_; clear hA a; intro a hA
  refine S.done ?_
  refine Ends.ite hA rfl (fun hc6 => ?_) (fun hc6 => ?_)
  ·
   have hk := hc6
   refine Ends.seq (Ends.region ?_)
   refine S.val hA (R.move rfl) rfl ?_; clear hA a; intro a hA
   refine S.val hA (R.lenS Try.underlying22 rfl rfl) rfl ?_; clear hA a; intro a hA
   refine S.val hA (R.move rfl) rfl ?_; clear hA a; intro a hA
   refine S.done ?_
   replace hA : St 25 [(3, _), (15, _), (16, _)] a := hA.sub ((.cons rfl (.cons rfl (.cons rfl .nil))))
   refine Ends.block ?_
   replace hM := Mem.eqM (L2 := [pt b4 ((ints ((List.range 0).map Int.ofNat ++ List.replicate (i.n.toNat - 0) 0))) 3, pt b1 #[.int .i64 i.kind, .int .i64 i.n, .int .i64 i.cap, .slice ax3 i.wt.length cx3, .slice ax4 i.vl.length cx4, .slice ax5 i.cost.length cx5] 25]) hM (by rw [← fil_zero])
   refine Ends.loop (σ := Nat) (fun k (a : Act) (wv : World) => St 25 [(3, .slice (some ⟨b4, 0, none⟩) i.n.toNat i.n.toNat), (15, .int .i64 ((i.n.toNat : Int))), (16, .int .i64 ((k : Int)))] a ∧ Mem w nof [pt b4 ((ints ((List.range k).map Int.ofNat ++ List.replicate (i.n.toNat - k) 0))) 3, pt b1 #[.int .i64 i.kind, .int .i64 i.n, .int .i64 i.cap, .slice ax3 i.wt.length cx3, .slice ax4 i.vl.length cx4, .slice ax5 i.cost.length cx5] 25] wv ∧ (k ≤ i.n.toNat)) (fun k => i.n.toNat - k) 0 ⟨hA.sub ((.cons rfl (.cons rfl (.cons rfl .nil)))), hM, (Nat.zero_le _)⟩ ?_
   clear hA hM a
   rintro k a w4 ⟨hA, hM, hk2⟩ hNext
   refine Ends.seq (Ends.region ?_)
   refine S.val hA (R.lss rfl rfl) rfl ?_; clear hA a; intro a hA
   refine S.done ?_
   refine Ends.seq ?_
   refine Ends.ite hA rfl (fun hc7 => ?_) (fun hc7 => ?_)
   ·
    refine Ends.skip (Ends.seq (Ends.block (Ends.seq (Ends.region ?_))))
    refine S.val hA (R.move rfl) rfl ?_; clear hA a; intro a hA
    refine S.val hA (R.assign rfl) rfl ?_; clear hA a; intro a hA
    refine S.done ?_
    refine Ends.region ?_
    refine S.val hA (R.move rfl) rfl ?_; clear hA a; intro a hA
    refine S.val hA (R.move rfl) rfl ?_; clear hA a; intro a hA
    refine S.val hA (R.move rfl) rfl ?_; clear hA a; intro a hA
    refine S.val hA (R.indexAddr (q := k) sl22 rfl rfl (by first | omega | (rw [fil_len _ _ (by omega)]; omega)) (by first | omega | (rw [fil_len _ _ (by omega)]; omega))) rfl ?_; clear hA a; intro a hA
    refine S.store (k := 0) hA hM sz3 rfl rfl rfl rfl (ints_getD (((List.range k).map Int.ofNat ++ List.replicate (i.n.toNat - k) 0)) _ (by first | omega | (rw [fil_len _ _ (by omega)]; omega))) ?_; clear hM
    intro w5 hM
    rw [ints_set] at hM
    replace hM : Mem _ _ [pt b4 ((ints ((((List.range k).map Int.ofNat ++ List.replicate (i.n.toNat - k) 0)).set k ((k : Int))))) 3, pt b1 #[.int .i64 i.kind, .int .i64 i.n, .int .i64 i.cap, .slice ax3 i.wt.length cx3, .slice ax4 i.vl.length cx4, .slice ax5 i.cost.length cx5] 25] _ := hM
    refine S.done ?_
    replace hA : St 25 [(3, _), (15, _), (16, _)] a := hA.sub ((.cons rfl (.cons rfl (.cons rfl .nil))))
    refine Ends.inBlock (Ends.region ?_)
    refine S.val hA (R.addI rfl rfl (r := ((k : Int)) + 1) rfl (by first | omega | (rw [fil_len _ _ (by omega)]; omega))) rfl ?_; clear hA a; intro a hA
    refine S.val hA (R.move rfl) rfl ?_; clear hA a; intro a hA
    refine S.done ?_
    rw [fil_set _ k (by omega)] at hM
    replace hM : Mem _ _ [pt b4 ((ints ((List.range (k + 1)).map Int.ofNat ++ List.replicate (i.n.toNat - (k + 1)) 0))) 3, pt b1 #[.int .i64 i.kind, .int .i64 i.n, .int .i64 i.cap, .slice ax3 i.wt.length cx3, .slice ax4 i.vl.length cx4, .slice ax5 i.cost.length cx5] 25] _ := hM
    exact hNext ((k + 1)) _ _ ((by show i.n.toNat - (k + 1) < i.n.toNat - k; omega)) ⟨hA.sub ((.cons rfl (.cons rfl (.cons rfl .nil)))), hM, (by omega)⟩
   ·
    have hke : k = i.n.toNat := by omega
    refine Ends.exit rfl ?_
    refine Ends.seq (Ends.region ?_)
    refine S.val hA (R.move rfl) rfl ?_; clear hA a; intro a hA
    refine S.val hA (R.assign rfl) rfl ?_; clear hA a; intro a hA
    refine S.done ?_
    replace hA : St 25 [(2, _)] a := hA.sub ((.cons rfl .nil))
    refine Ends.ret1 Try.func14 Try.results14 hA rfl ?_
    have he : ((List.range k).map Int.ofNat ++ List.replicate (i.n.toNat - k) 0) = plnI i := (fil_all _ _ hke).trans (pln_or hz hk)
    rw [he] at hM
    have hpl := pln_len hz
    have hr := hM.ptRs (k := 0) (X := plnI i) rfl (by omega)
    exact ⟨_, _, by rw [hpl], by rw [hpl] at hr ⊢; exact hr, Mem.trans0 hbs hM.nilL⟩
  ·
   have hk := hc6
   refine Ends.skip (Ends.seq (Ends.region ?_))
   refine S.val hA (R.move rfl) rfl ?_; clear hA a; intro a hA
   refine S.val hA (R.assign rfl) rfl ?_; clear hA a; intro a hA
   refine S.done ?_
   replace hA : St 25 [(2, _)] a := hA.sub ((.cons rfl .nil))
   refine Ends.ret1 Try.func14 Try.results14 hA rfl ?_
   have he : (List.replicate i.n.toNat 0) = plnI i := pln_kn hz (Decidable.not_not.1 hk)
   rw [he] at hM
   have hpl := pln_len hz
   have hr := hM.ptRs (k := 0) (X := plnI i) rfl (by omega)
   exact ⟨_, _, by rw [hpl], by rw [hpl] at hr ⊢; exact hr, Mem.trans0 hbs hM.nilL⟩
set_option maxRecDepth 100000 in
set_option maxHeartbeats 400000 in
theorem tot08 (i : Ins) (ax3 : Option Addr) (cx3 : Nat) (ax4 : Option Addr) (cx4 : Nat) (ax5 : Option Addr) (cx5 : Nat) (hsm : i.wt.length ≤ 1000000 ∧ i.vl.length ≤ 1000000) (w : World) (hx3 : IntSl w (.slice ax3 i.wt.length cx3) i.wt) (hx4 : IntSl w (.slice ax4 i.vl.length cx4) i.vl) (hx5 : RowsV w (.slice ax5 i.cost.length cx5) i.cost) :
  Calls Try.prog 18 #[.agg #[.int .i64 i.kind, .int .i64 i.n, .int .i64 i.cap, .slice ax3 i.wt.length cx3, .slice ax4 i.vl.length cx4, .slice ax5 i.cost.length cx5]] w fun e w' => e = .returned (.int .i64 (totI i)) ∧ Below w.heap.size w w' := by
 have hbs := Below.refl (B := w.heap.size) w
 have hM := Mem.start w
 refine Calls.of_ends (vs := [.agg #[.int .i64 i.kind, .int .i64 i.n, .int .i64 i.cap, .slice ax3 i.wt.length cx3, .slice ax4 i.vl.length cx4, .slice ax5 i.cost.length cx5]]) Try.func18 rfl Try.ntmps18 rfl ?_
 intro a hA
 replace hA : St 25 [(0, _)] a := hA
 refine Ends.seq (Ends.region ?_)
 refine S.box hA hM rfl rfl ?_; clear hA hM a; intro b1 w1 hb2 hM a hA
 replace hM : Mem _ _ [pt b1 #[.int .i64 i.kind, .int .i64 i.n, .int .i64 i.cap, .slice ax3 i.wt.length cx3, .slice ax4 i.vl.length cx4, .slice ax5 i.cost.length cx5] 25] _ := hM
 refine S.val hA (R.assign rfl) rfl ?_; clear hA a; intro a hA
 refine S.done ?_
 refine Ends.seq (Ends.seq (Ends.region ?_))
 refine S.val hA (R.loadA sz25 rfl (hM.range (k := 0) rfl) rfl) rfl ?_; clear hA a; intro a hA
 refine S.call hA (R.callF Try.func35 rfl rfl rfl) rfl (check05 i ax3 cx3 ax4 cx4 ax5 cx5 hsm _ (hx3.mem hM) (hx4.mem hM) (hx5.mem hM)) ?_; clear hA a
 rintro e w2 ⟨rfl, hb⟩
 replace hM := hM.callB hb; clear hb
 refine ⟨.int .i64 (chk i), rfl, fun a hA => ?_⟩
 refine S.val hA (R.neq rfl rfl) rfl ?_; clear hA a; intro a hA
 refine S.done ?_
 replace hA : St 25 [(1, _), (8, _)] a := hA.sub ((.cons rfl (.cons rfl .nil)))
 refine Ends.ite hA rfl (fun hc3 => ?_) (fun hc3 => ?_)
 ·
  refine Ends.seq (Ends.region ?_)
  refine S.val hA (R.assign rfl) rfl ?_; clear hA a; intro a hA
  refine S.done ?_
  refine Ends.ret1 Try.func18 Try.results18 hA rfl ?_
  exact ⟨by unfold totI; rw [if_pos hc3], Mem.trans0 hbs hM.nilL⟩
 ·
  have hz : chk i = 0 := Decidable.not_not.1 hc3
  have hF := chk_inF hz
  have f2 := hF.n1
  have f3 := hF.n64
  have f5 := hF.wt
  have f6 := hF.vl
  have f7 := hF.cost
  have hlx0 := inF_len hF
  have hvs := vl_sum hF
  have hrow := hF.row
  refine Ends.skip (Ends.seq (Ends.region ?_))
  refine S.val hA (R.fieldAddr (q := 4) fi25_4 rfl rfl rfl) rfl ?_; clear hA a; intro a hA
  refine S.val hA (R.load sz22 rfl (hM.cell (k := 0) rfl rfl)) rfl ?_; clear hA a; intro a hA
  refine S.call hA (R.callF Try.func43 rfl rfl rfl) rfl (total08 ax4 i.vl cx4 (by omega) (fun q => hF.vlr q) _ (hx4.mem hM)) ?_; clear hA a
  rintro e w3 ⟨rfl, hb⟩
  replace hM := hM.callB hb; clear hb
  refine ⟨.int .i64 i.vl.sum, rfl, fun a hA => ?_⟩
  refine S.val hA (R.assign rfl) rfl ?_; clear hA a; intro a hA
  refine S.done ?_
  replace hA : St 25 [(1, _), (3, _)] a := hA.sub ((.cons rfl (.cons rfl .nil)))
  refine Ends.seq (Ends.seq (Ends.region ?_))
  refine S.val hA (R.fieldAddr (q := 5) fi25_5 rfl rfl rfl) rfl ?_; clear hA a; intro a hA
  refine S.val hA (R.load sz23 rfl (hM.cell (k := 0) rfl rfl)) rfl ?_; clear hA a; intro a hA
  refine S.val hA (R.lenS Try.underlying23 rfl rfl) rfl ?_; clear hA a; intro a hA
  refine S.val hA (R.move rfl) rfl ?_; clear hA a; intro a hA
  refine S.done ?_
  refine Ends.block ?_
  rw [show i.vl.sum = i.vl.sum + sumF (mxR i) 0 by simp [sumF]] at hA
  refine Ends.loop (σ := Nat) (fun r (a : Act) (wv : World) => St 25 [(3, .int .i64 (i.vl.sum + sumF (mxR i) r)), (13, .slice ax5 i.cost.length cx5), (14, .int .i64 ((i.cost.length : Int))), (15, .int .i64 ((r : Int)))] a ∧ Mem w nof [pt b1 #[.int .i64 i.kind, .int .i64 i.n, .int .i64 i.cap, .slice ax3 i.wt.length cx3, .slice ax4 i.vl.length cx4, .slice ax5 i.cost.length cx5] 25] wv ∧ (r ≤ i.cost.length)) (fun r => i.cost.length - r) 0 ⟨hA.sub ((.cons rfl (.cons rfl (.cons rfl (.cons rfl .nil))))), hM, (Nat.zero_le _)⟩ ?_
  clear hA hM a
  rintro r a w4 ⟨hA, hM, hr⟩ hNext
  refine Ends.seq (Ends.region ?_)
  refine S.val hA (R.lss rfl rfl) rfl ?_; clear hA a; intro a hA
  refine S.done ?_
  refine Ends.seq ?_
  refine Ends.ite hA rfl (fun hc4 => ?_) (fun hc4 => ?_)
  ·
   have hrk := hrow r (by omega)
   have hmx := mxS_bd hF r (by omega)
   have hmr := mxR_bd hF r
   refine Ends.skip (Ends.seq (Ends.block (Ends.seq (Ends.region ?_))))
   refine S.val hA (R.idxR hx5 (j := r) sl23 rfl rfl (by omega) (rfl)) rfl ?_; clear hA a; intro a hA
   obtain ⟨ra5, rc6, hrow7, hld8⟩ := hx5.atP (i := r) (by omega)
   refine S.val hA (hld8 _ _ _ _ _ _ hM sz22 rfl) rfl ?_; clear hA a; intro a hA
   refine S.val hA (R.assign rfl) rfl ?_; clear hA a; intro a hA
   refine S.done ?_
   refine Ends.region ?_
   refine S.val hA (R.move rfl) rfl ?_; clear hA a; intro a hA
   refine S.val hA (R.move rfl) rfl ?_; clear hA a; intro a hA
   refine S.call hA (R.callF Try.func44 rfl rfl rfl) rfl (max08 ra5 ((i.cost.getD r [])) rc6 (by omega) (fun q => hF.cell r q) _ (hrow7.mem hM)) ?_; clear hA a
   rintro e w5 ⟨rfl, hb⟩
   replace hM := hM.callB hb; clear hb
   refine ⟨.int .i64 (mxR i r), rfl, fun a hA => ?_⟩
   refine S.val hA (R.addI rfl rfl (r := (i.vl.sum + sumF (mxR i) r) + (mxR i r)) rfl (by omega)) rfl ?_; clear hA a; intro a hA
   refine S.val hA (R.assign rfl) rfl ?_; clear hA a; intro a hA
   refine S.done ?_
   replace hA : St 25 [(3, _), (13, _), (14, _), (15, _)] a := hA.sub ((.cons rfl (.cons rfl (.cons rfl (.cons rfl .nil)))))
   refine Ends.inBlock (Ends.region ?_)
   refine S.val hA (R.addI rfl rfl (r := ((r : Int)) + 1) rfl (by omega)) rfl ?_; clear hA a; intro a hA
   refine S.val hA (R.move rfl) rfl ?_; clear hA a; intro a hA
   refine S.done ?_
   have hs9 : i.vl.sum + sumF (mxR i) (r + 1) = (i.vl.sum + sumF (mxR i) r) + (mxR i r) := by simp only [sumF]; omega
   rw [← hs9] at hA
   exact hNext ((r + 1)) _ _ ((by show i.cost.length - (r + 1) < i.cost.length - r; omega)) ⟨hA.sub ((.cons rfl (.cons rfl (.cons rfl (.cons rfl .nil))))), hM, (by omega)⟩
  ·
   have hre : r = i.cost.length := by omega
   refine Ends.exit rfl ?_
   replace hA : St 25 [(3, _)] a := hA.sub ((.cons rfl .nil))
   refine Ends.seq (Ends.region ?_)
   refine S.val hA (R.move rfl) rfl ?_; clear hA a; intro a hA
   refine S.val hA (R.assign rfl) rfl ?_; clear hA a; intro a hA
   refine S.done ?_
   refine Ends.ret1 Try.func18 Try.results18 hA rfl ?_
   exact ⟨by unfold totI; rw [if_neg (not_not_intro hz), ← hre], Mem.trans0 hbs hM.nilL⟩
end Go.Proofs.Ytnikajkklocncaa
namespace Go.Proofs.Ytnikajkklocncaa
open Go.RowKit Go.WideShapes Go.ChangeShapes Go.Deep
section
variable {H : Type} {enc : TypeId × Value → H} {P : Program} {w : World}
theorem trod_ints {t e : TypeId} {fuel : Nat} {cs : List Value} {x : DataW H × List MemPlace} {held : Bool} (ht : P.underlying t = some (.slice e)) (he : P.underlying e = some (.int .i64)) (hce : P.cellsOf e = 1)
    (h : DataW.trod enc P w 0 (fun _ => true) held fuel t cs = some x) : ∃ (u : Value) (l : List Int), cs = [u] ∧ IntSl w u l ∧ ∀ y ∈ l, (Lit.int .i64 y).wf = true := by
  rcases open_ints ht he hce h with ⟨hcs, _⟩ | ⟨x, len, cap, zs, hcs, _, hl, hm, hz, _, hcell, hwz⟩
  · exact ⟨_, [], hcs, IntSl.nil w, fun x hx => by cases hx⟩
  · simp only [if_true] at hz
    refine ⟨_, zs.take len, hcs, ⟨some x, cap, by rw [List.length_take, Nat.min_eq_left (by omega)], by rw [List.length_take]; omega, hm, (fun h => nomatch h), fun hne => ?_⟩, fun y hy => hwz y (List.mem_of_mem_take hy)⟩
    have h0 : 0 < zs.length ∧ 0 < len := by
      rcases Nat.eq_zero_or_pos len with e | e
      · subst e; simp at hne
      · exact ⟨by omega, e⟩
    obtain ⟨b, off, spot⟩ := x
    have hs : spot = none := by
      have h1 := hcell 0 h0.1
      unfold Addr.add at h1
      simp only [if_true] at h1
      cases spot with
      | none => rfl
      | some s =>
        unfold World.cell? at h1
        split at h1 <;> simp at h1
    subst hs
    refine ⟨b, off, rfl, ?_, fun i hi => ?_⟩
    · have h1 := hcell 0 h0.1
      exact World.block_lt_of_cell? w _ h1
    · rw [List.length_take] at hi
      have h1 := hcell i (by omega)
      rw [Addr.add_lit] at h1
      rw [h1]
      congr 2
      simp only [List.getD_eq_getElem?_getD, List.getElem?_take]
      rw [if_pos (by omega)]
theorem trod_rows {t e f : TypeId} {fuel : Nat} {cs : List Value} {x : DataW H × List MemPlace} {held : Bool} (ht : P.underlying t = some (.slice e)) (hu : P.underlying e = some (.slice f)) (hc1 : P.cellsOf e = 1) (he : P.underlying f = some (.int .i64)) (hce : P.cellsOf f = 1)
  (h : DataW.trod enc P w 0 (fun _ => true) held fuel t cs = some x) : ∃ (u : Value) (R : List (List Int)), cs = [u] ∧ RowsV w u R ∧ ∀ r ∈ R, ∀ y ∈ r, (Lit.int .i64 y).wf = true := by
 rcases open_slice ht h with ⟨hcs, _⟩ | ⟨x, len, cap, m, nn, D, Pl, hcs, hb, hl, hm, hmm, -, hx⟩
 · exact ⟨_, [], hcs, RowsV.nil w, fun x hx => by cases hx⟩
 ·
  simp only [if_true] at hmm
  subst hmm
  have each : ∀ i, i < len → ∃ (u : Value) (l : List Int), w.cell? (x.add i) = some u ∧ IntSl w u l ∧ ∀ y ∈ l, (Lit.int .i64 y).wf = true := by
   intro i hi
   obtain ⟨cs', h1, h2⟩ := hx i (by omega)
   obtain ⟨u, l, rfl, h3, h4⟩ := trod_ints hu he hce h2
   rw [hc1, Nat.mul_one] at h1
   obtain ⟨-, hlen, hcell⟩ := World.cells?_some h1
   have h5 := hcell 0 (by omega)
   refine ⟨u, l, ?_, h3, h4⟩
   have e0 : (x.add i).add 0 = x.add i := by simp [Addr.add]
   rw [e0] at h5
   rw [h5]; rfl
  rcases Nat.eq_zero_or_pos len with e0 | e0
  ·
   subst e0
   exact ⟨_, [], hcs, ⟨some x, _, rfl, hl, hm, (fun h => nomatch h), fun h => absurd rfl h⟩, fun x hx => by cases hx⟩
  let f : Nat → List Int := fun i => if hi : i < len then Classical.choose (Classical.choose_spec (each i hi)) else []
  have hf : ∀ i, i < len → ∃ u, w.cell? (x.add i) = some u ∧ IntSl w u (f i) ∧ ∀ y ∈ f i, (Lit.int .i64 y).wf = true := fun i hi => by
   refine ⟨Classical.choose (each i hi), ?_⟩
   have := Classical.choose_spec (Classical.choose_spec (each i hi))
   simp only [f, hi, dif_pos]
   exact this
  have hlen : ((List.range len).map f).length = len := by simp
  obtain ⟨b, off, spot⟩ := x
  have hs : spot = none := by
   obtain ⟨u, h1, -⟩ := hf 0 e0
   unfold Addr.add at h1
   cases spot with
   | none => rfl
   | some s =>
    unfold World.cell? at h1
    split at h1 <;> simp at h1
  subst hs
  refine ⟨_, (List.range len).map f, hcs, ⟨some ⟨b, off, none⟩, _, by rw [hlen], by rw [hlen]; exact hl, hm, (fun h => nomatch h), fun _ => ⟨b, off, rfl, ?_, fun i hi => ?_⟩⟩, fun r hr => ?_⟩
  ·
   obtain ⟨u, h1, -⟩ := hf 0 e0
   exact World.block_lt_of_cell? w _ h1
  ·
   rw [hlen] at hi
   obtain ⟨u, h1, h2, -⟩ := hf i hi
   rw [Addr.add_lit] at h1
   refine ⟨u, h1, ?_⟩
   rw [show ((List.range len).map f).getD i [] = f i by simp [List.getD, hi]]
   exact h2
  ·
   obtain ⟨i, hi, rfl⟩ := List.mem_map.1 hr
   obtain ⟨u, -, -, h3⟩ := hf i (List.mem_range.1 hi)
   exact h3
def wfI (i : Ins) : Prop := (Lit.int .i64 i.kind).wf = true ∧ (Lit.int .i64 i.n).wf = true ∧ (Lit.int .i64 i.cap).wf = true ∧ (∀ y ∈ i.wt, (Lit.int .i64 y).wf = true) ∧ (∀ y ∈ i.vl, (Lit.int .i64 y).wf = true) ∧ ∀ r ∈ i.cost, ∀ y ∈ r, (Lit.int .i64 y).wf = true
theorem open_ins {r : Reach} {b0 : Nat} {t tI tS tR : TypeId} {fs : Array Field} {v : Value} {d : DataW H} {p : List MemPlace} {held : Bool} (ht : P.underlying t = some (.struct fs)) (hcells : P.cellsOf t = 6) (hI : P.underlying tI = some (.int .i64)) (hcI : P.cellsOf tI = 1) (hS : P.underlying tS = some (.slice tI)) (hcS : P.cellsOf tS = 1) (hR : P.underlying tR = some (.slice tS)) (hcR : P.cellsOf tR = 1)
  (hf : ∃ f0 f1 f2 f3 f4 f5 : Field, fs = #[f0, f1, f2, f3, f4, f5] ∧ (f0.type = tI ∧ f1.type = tI ∧ f2.type = tI ∧ f3.type = tS ∧ f4.type = tS ∧ f5.type = tR) ∧ f0.offset = 0 ∧ f1.offset = 1 ∧ f2.offset = 2 ∧ f3.offset = 3 ∧ f4.offset = 4 ∧ f5.offset = 5)
  (hv : Value.okWide P w r b0 t v) (h : DataW.Trod enc P w 0 (fun _ => true) held t v d p) : ∃ i : Ins, InsV w v i ∧ wfI i := by
 simp only [Value.okWide, ht] at hv
 obtain ⟨cs, rfl, hsz, -⟩ := hv
 obtain ⟨fuel, hfu⟩ := h
 obtain ⟨f0, f1, f2, f3, f4, f5, rfl, ⟨t0, t1, t2, t3, t4, t5⟩, o0, o1, o2, o3, o4, o5⟩ := hf
 obtain ⟨xs, k, -, -, hlen, hxl, hfd⟩ := DataW.trod_struct ht hfu
 rw [hcells] at hlen hsz
 obtain ⟨c0, c1, c2, c3, c4, c5, rfl⟩ : ∃ c0 c1 c2 c3 c4 c5, cs = #[c0, c1, c2, c3, c4, c5] := by
  match cs, hsz with
  | ⟨[c0, c1, c2, c3, c4, c5]⟩, _ => exact ⟨c0, c1, c2, c3, c4, c5, rfl⟩
 have hx : ∀ j, j < 6 → ∃ y, xs[j]? = some y := fun j hj => ⟨xs[j]'(by rw [hxl]; exact hj), List.getElem?_eq_getElem _⟩
 have g : ∀ (j : Nat) (f : Field) (tt : TypeId) (c : Value), (#[f0, f1, f2, f3, f4, f5] : Array Field)[j]? = some f → j < 6 → f.type = tt → f.offset = j → P.cellsOf tt = 1 → (([c0, c1, c2, c3, c4, c5] : List Value).drop j).take 1 = [c] → ∃ y, DataW.trod enc P w 0 (fun _ => true) held k tt [c] = some y := by
  intro j f tt c h1 hj h2 h3 h4 h5
  have := hfd j f h1
  rw [h2, h3, h4] at this
  obtain ⟨y, hy⟩ := hx j hj
  refine ⟨y, ?_⟩
  rw [← hy, ← this, ← h5]
  rfl
 obtain ⟨y0, g0⟩ := g 0 f0 tI c0 rfl (by omega) t0 o0 hcI rfl
 obtain ⟨y1, g1⟩ := g 1 f1 tI c1 rfl (by omega) t1 o1 hcI rfl
 obtain ⟨y2, g2⟩ := g 2 f2 tI c2 rfl (by omega) t2 o2 hcI rfl
 obtain ⟨y3, g3⟩ := g 3 f3 tS c3 rfl (by omega) t3 o3 hcS rfl
 obtain ⟨y4, g4⟩ := g 4 f4 tS c4 rfl (by omega) t4 o4 hcS rfl
 obtain ⟨y5, g5⟩ := g 5 f5 tR c5 rfl (by omega) t5 o5 hcR rfl
 obtain ⟨n0, e0, -, w0⟩ := DataW.trod_int hI g0
 obtain ⟨n1, e1, -, w1⟩ := DataW.trod_int hI g1
 obtain ⟨n2, e2, -, w2⟩ := DataW.trod_int hI g2
 obtain ⟨u3, l3, e3, s3, w3⟩ := trod_ints hS hI hcI g3
 obtain ⟨u4, l4, e4, s4, w4⟩ := trod_ints hS hI hcI g4
 obtain ⟨u5, R, e5, s5, w5⟩ := trod_rows hR hS hcS hI hcI g5
 cases e0
 cases e1
 cases e2
 cases e3
 cases e4
 cases e5
 exact ⟨⟨n0, n1, n2, l3, l4, R⟩, ⟨_, _, _, rfl, s3, s4, s5⟩, w0, w1, w2, w3, w4, w5⟩
end
end Go.Proofs.Ytnikajkklocncaa
namespace Go.Proofs.Ytnikajkklocncaa
open Go.RowKit
theorem D.appendI {P : Program} {a : Act} {w w0 : World} {nn : Nat} {l : List (Nat × Value)} {Q : Exit → Act → World → Prop} {F : Nat → Prop} {L : List Ck} {S : World → Prop} {os : List Oper} {is : Ordt} {i last : Nat} {b0 : Bool} {d : Nat} {t e ty : TypeId} {x y : Operand} {pos : String} {aft : Array Edge}
    {k n bytes cap : Nat} {v z : Value} {xs : List Value} {X : List Int} {ad : Option Addr} {j : TypeInfo} (hA : St nn l a) (hM : Mem w0 F L w) (ho : ith os i = some { dst := some d, op := .call { callee := .builtin .append, args := #[x, y], argTypes := #[t, t] }, type := ty, pos, after := aft, guard := none })
    (hk : ith L k = some (own e 1 v n xs)) (hX : IntSl w (.slice ad X.length cap) X) (hpos : 0 < X.length) (ht : P.underlying t = some (.slice e)) (hi : P.info? e = some j) (hz : j.zero = some z) (hsz : j.size = 1) (hby : j.bytes = bytes) (hzs : z.cells.size = 1)
    (hx : opv l x = some v) (hy : opv l y = some (.slice ad X.length cap)) (hmax : n + X.length ≤ maxLen) (hbs : (n + X.length) * bytes ≤ 140737488355328) (hd : Nat.blt d nn = true)
    (h : ∀ a' cap' w', Mem w0 F (setAt L k (own e 1 (.slice a' (n + X.length) cap') (n + X.length) (xs ++ X.map (Value.int .i64)))) w' → S w' ∧ ∀ a, St nn ((d, .slice a' (n + X.length) cap') :: l) a → wpOrd P last os Q S b0 is a w') : wpOrd P last os Q S b0 (.cons (i, false) is) a w := by
  obtain ⟨ad', cap', he, hle, hmx, hnn, hc⟩ := hX
  injection he with he1 he2 he3
  subst he1 he3
  cases ad with
  | none => exact absurd (hnn rfl) (by omega)
  | some p =>
    refine D.appendG hA hM ho hk ht hi hz hsz hby hzs (by decide) hx hy (by simp) (fun j u hu => ?_) (allOne_ints X) hmax hbs hd h
    obtain ⟨hj, rfl⟩ := mapi_take X j u hu
    obtain ⟨b, off, hb, hlt, hcell⟩ := hc (by intro e0; rw [e0] at hj; simp at hj)
    cases hb
    rw [Addr.add_lit]; exact hcell j hj
end Go.Proofs.Ytnikajkklocncaa
namespace Go.Proofs.Ytnikajkklocncaa
open Go.RowKit
theorem rows3 {w : World} {b b0 b1 b2 : Nat} {R0 R1 R2 : List Int} {t : TypeId} (hb : w.heap[b]? = some (.cells #[.slice (some ⟨b0, 0, none⟩) 3 3, .slice (some ⟨b1, 0, none⟩) 3 3, .slice (some ⟨b2, 0, none⟩) 3 3] t (0, 0)))
    (h0 : IntSl w (.slice (some ⟨b0, 0, none⟩) 3 3) R0) (h1 : IntSl w (.slice (some ⟨b1, 0, none⟩) 3 3) R1) (h2 : IntSl w (.slice (some ⟨b2, 0, none⟩) 3 3) R2) : RowsV w (.slice (some ⟨b, 0, none⟩) 3 3) [R0, R1, R2] := by
  refine ⟨some ⟨b, 0, none⟩, 3, rfl, by simp, by unfold maxLen; omega, (fun h => nomatch h), fun _ => ⟨b, 0, rfl, lt_of_block hb, fun i hi => ?_⟩⟩
  rw [Nat.zero_add]
  match i, hi with
  | 0, _ => exact ⟨_, by simp [World.cell?, hb], h0⟩
  | 1, _ => exact ⟨_, by simp [World.cell?, hb], h1⟩
  | 2, _ => exact ⟨_, by simp [World.cell?, hb], h2⟩
  | i + 3, h => exact absurd h (by simp)
def iV : Ins := ⟨3, 3, 0, [], [], [[0, 1, 2], [3, 0, 4], [5, 6, 0]]⟩
theorem chk_v : chk iV = 0 := by
  have hs : shapeOK iV := .inr ⟨by decide, rfl, rfl, rfl, rfl, fun r hr => by
    match r, hr with
    | 0, _ => rfl
    | 1, _ => rfl
    | 2, _ => rfl
    | r + 3, h => exact absurd h (by show ¬ r + 3 < 3; omega)⟩
  unfold chk
  rw [if_neg (not_not_intro (show sizeE iV = 0 by decide)), if_pos hs]
  first | rfl | decide
theorem cost_v : costI iV [0, 2, 1] = (11, 0) := by
  rw [costI_or chk_v (by decide), if_neg (not_not_intro (show ordP iV [0, 2, 1] from ⟨by decide, fun _ => rfl⟩))]
  decide
theorem plain_v : plnI iV = [0, 1, 2] := by unfold plnI; rw [if_neg (not_not_intro chk_v), if_neg (by decide)]; rfl
theorem tot_v : totI iV = 12 := by unfold totI; rw [if_neg (not_not_intro chk_v)]; decide
theorem cost_vw (av3 : Option Addr) (cv3 : Nat) (av4 : Option Addr) (cv4 : Nat) (av5 : Option Addr) (cv5 : Nat) (ay : Option Addr) (cy : Nat) (w : World) (hv3 : IntSl w (.slice av3 iV.wt.length cv3) iV.wt) (hv4 : IntSl w (.slice av4 iV.vl.length cv4) iV.vl) (hv5 : RowsV w (.slice av5 iV.cost.length cv5) iV.cost) (hy : IntSl w (.slice ay ([0, 2, 1] : List Int).length cy) [0, 2, 1]) :
    Calls Try.prog 17 #[.agg #[.int .i64 iV.kind, .int .i64 iV.n, .int .i64 iV.cap, .slice av3 iV.wt.length cv3, .slice av4 iV.vl.length cv4, .slice av5 iV.cost.length cv5], .slice ay ([0, 2, 1] : List Int).length cy] w fun e w' => e = .returned (.tuple #[.int .i64 11, .int .i64 0]) ∧ Below w.heap.size w w' := by
  have h := cost08 iV av3 cv3 av4 cv4 av5 cv5 ay [0, 2, 1] cy ⟨by decide, by decide⟩ w hv3 hv4 hv5 hy
  rwa [cost_v] at h
theorem plain_vw (av3 : Option Addr) (cv3 : Nat) (av4 : Option Addr) (cv4 : Nat) (av5 : Option Addr) (cv5 : Nat) (w : World) (hv3 : IntSl w (.slice av3 iV.wt.length cv3) iV.wt) (hv4 : IntSl w (.slice av4 iV.vl.length cv4) iV.vl) (hv5 : RowsV w (.slice av5 iV.cost.length cv5) iV.cost) : Calls Try.prog 14 #[.agg #[.int .i64 iV.kind, .int .i64 iV.n, .int .i64 iV.cap, .slice av3 iV.wt.length cv3, .slice av4 iV.vl.length cv4, .slice av5 iV.cost.length cv5]] w (fun e w' => ∃ a c, e = .returned (.slice a (([0, 1, 2] : List Int)).length c) ∧ IntSl w' (.slice a (([0, 1, 2] : List Int)).length c) (([0, 1, 2] : List Int)) ∧ Below w.heap.size w w') := by
  have h := plain08 iV av3 cv3 av4 cv4 av5 cv5 ⟨by decide, by decide⟩ w hv3 hv4 hv5
  rwa [plain_v] at h
theorem tot_vw (av3 : Option Addr) (cv3 : Nat) (av4 : Option Addr) (cv4 : Nat) (av5 : Option Addr) (cv5 : Nat) (w : World) (hv3 : IntSl w (.slice av3 iV.wt.length cv3) iV.wt) (hv4 : IntSl w (.slice av4 iV.vl.length cv4) iV.vl) (hv5 : RowsV w (.slice av5 iV.cost.length cv5) iV.cost) : Calls Try.prog 18 #[.agg #[.int .i64 iV.kind, .int .i64 iV.n, .int .i64 iV.cap, .slice av3 iV.wt.length cv3, .slice av4 iV.vl.length cv4, .slice av5 iV.cost.length cv5]] w (fun e w' => e = .returned (.int .i64 12) ∧ Below w.heap.size w w') := by
  have h := tot08 iV av3 cv3 av4 cv4 av5 cv5 ⟨by decide, by decide⟩ w hv3 hv4 hv5
  rwa [tot_v] at h
set_option maxRecDepth 100000 in
set_option maxHeartbeats 400000 in
theorem values_any  (w : World) :
  Calls Try.prog 16 #[] w fun e w' => e = .returned (.bool true) ∧ Below w.heap.size w w' := by
 have hbs := Below.refl (B := w.heap.size) w
 have hM := Mem.start w
 refine Calls.of_ends (vs := []) Try.func16 rfl Try.ntmps16 rfl ?_
 intro a hA
 replace hA : St 40 [] a := hA
 refine Ends.seq (Ends.region ?_)
 refine S.val hA (R.assign rfl) rfl ?_; clear hA a; intro a hA
 refine S.done ?_
 refine Ends.seq (Ends.region ?_)
 refine S.buildSl (cells := #[.int .i64 0, .int .i64 1, .int .i64 2]) hA hM Try.underlying22 info3 rfl rfl rfl rfl (by kernel_rfl) rfl ?_; clear hA hM a; intro b1 w1 hb2 hM a hA
 replace hM : Mem _ _ [pt b1 #[.int .i64 0, .int .i64 1, .int .i64 2] 3] _ := hM
 refine S.buildSl (cells := #[.int .i64 3, .int .i64 0, .int .i64 4]) hA hM Try.underlying22 info3 rfl rfl rfl rfl (by kernel_rfl) rfl ?_; clear hA hM a; intro b3 w2 hb4 hM a hA
 replace hM : Mem _ _ [pt b3 #[.int .i64 3, .int .i64 0, .int .i64 4] 3, pt b1 #[.int .i64 0, .int .i64 1, .int .i64 2] 3] _ := hM
 refine S.buildSl (cells := #[.int .i64 5, .int .i64 6, .int .i64 0]) hA hM Try.underlying22 info3 rfl rfl rfl rfl (by kernel_rfl) rfl ?_; clear hA hM a; intro b5 w3 hb6 hM a hA
 replace hM : Mem _ _ [pt b5 #[.int .i64 5, .int .i64 6, .int .i64 0] 3, pt b3 #[.int .i64 3, .int .i64 0, .int .i64 4] 3, pt b1 #[.int .i64 0, .int .i64 1, .int .i64 2] 3] _ := hM
 refine S.buildSl (cells := #[.slice (some ⟨b1, 0, none⟩) 3 3, .slice (some ⟨b3, 0, none⟩) 3 3, .slice (some ⟨b5, 0, none⟩) 3 3]) hA hM Try.underlying23 info22 rfl rfl rfl rfl (by kernel_rfl) rfl ?_; clear hA hM a; intro b7 w4 hb8 hM a hA
 replace hM : Mem _ _ [pt b7 #[.slice (some ⟨b1, 0, none⟩) 3 3, .slice (some ⟨b3, 0, none⟩) 3 3, .slice (some ⟨b5, 0, none⟩) 3 3] 22, pt b5 #[.int .i64 5, .int .i64 6, .int .i64 0] 3, pt b3 #[.int .i64 3, .int .i64 0, .int .i64 4] 3, pt b1 #[.int .i64 0, .int .i64 1, .int .i64 2] 3] _ := hM
 refine S.val hA (R.build (cells := #[.int .i64 3, .int .i64 3, .int .i64 0, .slice none 0 0, .slice none 0 0, .slice (some ⟨b7, 0, none⟩) 3 3]) rfl (by kernel_rfl)) rfl ?_; clear hA a; intro a hA
 refine S.alloc hA hM info25 rfl rfl ?_; clear hA hM a; intro b9 w5 hb10 hM a hA
 replace hM : Mem _ _ [pt b9 cz0 25, pt b7 #[.slice (some ⟨b1, 0, none⟩) 3 3, .slice (some ⟨b3, 0, none⟩) 3 3, .slice (some ⟨b5, 0, none⟩) 3 3] 22, pt b5 #[.int .i64 5, .int .i64 6, .int .i64 0] 3, pt b3 #[.int .i64 3, .int .i64 0, .int .i64 4] 3, pt b1 #[.int .i64 0, .int .i64 1, .int .i64 2] 3] _ := hM
 refine S.storeA (k := 0) hA hM sz25 rfl rfl rfl rfl rfl rfl ?_; clear hM
 intro w6 hM
 replace hM : Mem _ _ [pt b9 #[.int .i64 3, .int .i64 3, .int .i64 0, .slice none 0 0, .slice none 0 0, .slice (some ⟨b7, 0, none⟩) 3 3] 25, pt b7 #[.slice (some ⟨b1, 0, none⟩) 3 3, .slice (some ⟨b3, 0, none⟩) 3 3, .slice (some ⟨b5, 0, none⟩) 3 3] 22, pt b5 #[.int .i64 5, .int .i64 6, .int .i64 0] 3, pt b3 #[.int .i64 3, .int .i64 0, .int .i64 4] 3, pt b1 #[.int .i64 0, .int .i64 1, .int .i64 2] 3] _ := hM
 refine S.done ?_
 have q0 := hM.ptRs (k := 4) (X := ([0, 1, 2] : List Int)) rfl (by decide)
 have q1 := hM.ptRs (k := 3) (X := ([3, 0, 4] : List Int)) rfl (by decide)
 have q2 := hM.ptRs (k := 2) (X := ([5, 6, 0] : List Int)) rfl (by decide)
 have hv5 := rows3 (hM.block (k := 1) rfl) q0 q1 q2
 have hv3 := IntSl.nil w6
 have hv4 := IntSl.nil w6
 replace hM : Mem _ _ [pt b9 #[.int .i64 iV.kind, .int .i64 iV.n, .int .i64 iV.cap, .slice none iV.wt.length 0, .slice none iV.vl.length 0, .slice ((some ⟨b7, 0, none⟩)) iV.cost.length 3] 25, pt b7 #[.slice (some ⟨b1, 0, none⟩) 3 3, .slice (some ⟨b3, 0, none⟩) 3 3, .slice (some ⟨b5, 0, none⟩) 3 3] 22, pt b5 #[.int .i64 5, .int .i64 6, .int .i64 0] 3, pt b3 #[.int .i64 3, .int .i64 0, .int .i64 4] 3, pt b1 #[.int .i64 0, .int .i64 1, .int .i64 2] 3] _ := hM
 replace hM := hM.drop 4
 replace hM := hM.drop 3
 replace hM := hM.drop 2
 replace hM := hM.drop 1
 replace hM : Mem _ _ [pt b9 #[.int .i64 iV.kind, .int .i64 iV.n, .int .i64 iV.cap, .slice none iV.wt.length 0, .slice none iV.vl.length 0, .slice ((some ⟨b7, 0, none⟩)) iV.cost.length 3] 25] _ := hM
 have hbx11 := hM.block (k := 0) rfl
 have hbs := hbs.trans (hM.below.mono hbs.size)
 replace hM := Mem.start w6
 refine Ends.seq (Ends.region ?_)
 refine S.val hA (R.loadA sz25 rfl (hM.oldRange hbx11) rfl) rfl ?_; clear hA a; intro a hA
 refine S.buildSl (cells := #[.int .i64 0, .int .i64 2, .int .i64 1]) hA hM Try.underlying22 info3 rfl rfl rfl rfl (by kernel_rfl) rfl ?_; clear hA hM a; intro b12 w7 hb13 hM a hA
 replace hM : Mem _ _ [pt b12 #[.int .i64 0, .int .i64 2, .int .i64 1] 3] _ := hM
 have hq8 := hM.ptRs (k := 0) (X := ([0, 2, 1] : List Int)) rfl (by decide)
 refine S.call hA (R.callF Try.func17 rfl rfl rfl) rfl (cost_vw none 0 none 0 ((some ⟨b7, 0, none⟩)) 3 (some ⟨b12, 0, none⟩) 3 _ (hv3.mem hM) (hv4.mem hM) (hv5.mem hM) hq8) ?_; clear hA a
 rintro e w8 ⟨rfl, hb⟩
 replace hM := hM.callB hb; clear hb
 refine ⟨.tuple #[.int .i64 11, .int .i64 0], rfl, fun a hA => ?_⟩
 refine S.val hA (R.move rfl) rfl ?_; clear hA a; intro a hA
 refine S.val hA (R.extract (v := .int .i64 11) rfl rfl) rfl ?_; clear hA a; intro a hA
 refine S.val hA (R.extract (v := .int .i64 0) rfl rfl) rfl ?_; clear hA a; intro a hA
 refine S.val hA (R.assign rfl) rfl ?_; clear hA a; intro a hA
 refine S.val hA (R.assign rfl) rfl ?_; clear hA a; intro a hA
 refine S.done ?_
 replace hA : St 40 [(1, _), (2, _), (3, _)] a := hA.sub ((.cons rfl (.cons rfl (.cons rfl .nil))))
 refine Ends.seq (Ends.region ?_)
 refine S.val hA (R.loadA sz25 rfl (hM.oldRange hbx11) rfl) rfl ?_; clear hA a; intro a hA
 refine S.call hA (R.callF Try.func14 rfl rfl rfl) rfl (plain_vw none 0 none 0 ((some ⟨b7, 0, none⟩)) 3 _ (hv3.mem hM) (hv4.mem hM) (hv5.mem hM)) ?_; clear hA a
 rintro e w9 ⟨ra14, rc15, rfl, rh16, hb⟩
 replace hM := hM.callB hb; clear hb
 have hbx17 := hM.block (k := 0) rfl
 have hbs := hbs.trans (hM.below.mono hbs.size)
 have hv3 := hv3.mem hM
 have hv4 := hv4.mem hM
 have hv5 := hv5.mem hM
 have hbx11 := hM.keepB hbx11
 replace hM := Mem.start w9
 refine ⟨.slice ra14 ((([0, 1, 2] : List Int)).length) rc15, rfl, fun a hA => ?_⟩
 refine S.val hA (R.assign rfl) rfl ?_; clear hA a; intro a hA
 refine S.done ?_
 refine Ends.seq (Ends.region ?_)
 refine S.val hA (R.move rfl) rfl ?_; clear hA a; intro a hA
 refine S.val hA (R.tt (R.eql rfl rfl) (by first | decide | simp | omega)) rfl ?_; clear hA a; intro a hA
 refine S.val hA (R.move rfl) rfl ?_; clear hA a; intro a hA
 refine S.valg (dj := 20) hA (by kernel_rfl) rfl (R.move rfl) rfl ?_; clear hA a; intro a hA
 refine S.valg (dj := 20) hA (by kernel_rfl) rfl (R.tt (R.eql rfl rfl) (by first | decide | simp | omega)) rfl ?_; clear hA a; intro a hA
 refine S.val hA (R.pickT rfl rfl) rfl ?_; clear hA a; intro a hA
 refine S.val hA (R.move rfl) rfl ?_; clear hA a; intro a hA
 refine S.valg (dj := 24) hA (by kernel_rfl) rfl (R.move rfl) rfl ?_; clear hA a; intro a hA
 refine S.valg (dj := 24) hA (by kernel_rfl) rfl (R.lenS Try.underlying22 rfl rfl) rfl ?_; clear hA a; intro a hA
 refine S.valg (dj := 24) hA (by kernel_rfl) rfl (R.tt (R.eql rfl rfl) (by rfl)) rfl ?_; clear hA a; intro a hA
 refine S.val hA (R.pickT rfl rfl) rfl ?_; clear hA a; intro a hA
 refine S.val hA (R.move rfl) rfl ?_; clear hA a; intro a hA
 refine S.valg (dj := 29) hA (by kernel_rfl) rfl (R.move rfl) rfl ?_; clear hA a; intro a hA
 refine S.valg (dj := 29) hA (by kernel_rfl) rfl (R.idxI rh16 (j := 2) sl22 rfl rfl (by first | omega | decide) (rfl)) rfl ?_; clear hA a; intro a hA
 refine S.valg (dj := 29) hA (by kernel_rfl) rfl (R.loadI (rh16.mem hM) sz3 rfl (by first | omega | decide)) rfl ?_; clear hA a; intro a hA
 refine S.valg (dj := 29) hA (by kernel_rfl) rfl (R.tt (R.eql rfl rfl) (by rfl)) rfl ?_; clear hA a; intro a hA
 refine S.val hA (R.pickT rfl rfl) rfl ?_; clear hA a; intro a hA
 refine S.val hA (R.move rfl) rfl ?_; clear hA a; intro a hA
 refine S.valg (dj := 35) hA (by kernel_rfl) rfl (R.loadA sz25 rfl (hM.oldRange hbx11) rfl) rfl ?_; clear hA a; intro a hA
 refine S.callg (dj := 35) hA (by kernel_rfl) rfl (R.callF Try.func18 rfl rfl rfl) rfl (tot_vw none 0 none 0 ((some ⟨b7, 0, none⟩)) 3 _ (hv3.mem hM) (hv4.mem hM) (hv5.mem hM)) ?_; clear hA a
 rintro e w10 ⟨rfl, hb⟩
 replace hM := hM.callB hb; clear hb
 refine ⟨.int .i64 12, rfl, fun a hA => ?_⟩
 refine S.valg (dj := 35) hA (by kernel_rfl) rfl (R.tt (R.eql rfl rfl) (by first | decide | simp | omega)) rfl ?_; clear hA a; intro a hA
 refine S.val hA (R.pickT rfl rfl) rfl ?_; clear hA a; intro a hA
 refine S.val hA (R.assign rfl) rfl ?_; clear hA a; intro a hA
 refine S.done ?_
 replace hA : St 40 [(0, _)] a := hA.sub ((.cons rfl .nil))
 refine Ends.ret1 Try.func16 Try.results16 hA rfl ?_
 exact ⟨rfl, Mem.trans0 hbs hM.nilL⟩
end Go.Proofs.Ytnikajkklocncaa
namespace Go.Proofs.Ytnikajkklocncaa
def ScB (l : List UInt8) (T : List Tok) : Prop := ∀ r : List UInt8, Going (bs (l ++ r)) 0 [] l.length T
def okN (r : List UInt8) : Prop := kb (bs r) 0 ≠ 2 ∧ kb (bs r) 0 ≠ 3
def ScN (l : List UInt8) (T : List Tok) : Prop := ∀ r : List UInt8, okN r → Going (bs (l ++ r)) 0 [] l.length T
theorem ScB.nil : ScB [] [] := fun _ => Going.refl _ _ _
theorem kb_mid (l r : List UInt8) (j : Nat) : kb (bs (l ++ r)) (l.length + j) = kb (bs r) j := by
  rw [← bs_app, show l.length = (bs l).size from (bs_size l).symm, kb_r]
theorem kb_cons (c : UInt8) (r : List UInt8) : kb (bs (c :: r)) 0 = kindI (c.toNat : Int) := by
  rw [kb_in (by rw [bs_size]; simp), show bs (c :: r) = ⟨(c :: r).toArray⟩ from rfl, byt_mk (by simp)]; rfl
def blk1 (c : UInt8) : Prop := kindI (c.toNat : Int) = 1
theorem blk1_k {c : UInt8} (h : blk1 c) : kindI (c.toNat : Int) = 1 := h
theorem okN_blk {c : UInt8} (h : blk1 c) (r : List UInt8) : okN (c :: r) := by unfold okN; rw [kb_cons, blk1_k h]; decide
theorem ScN.blank {l : List UInt8} {T : List Tok} {c : UInt8} (h : ScN l T) (hc : blk1 c) : ScB (l ++ [c]) T := fun r => by
  have h1 := h (c :: r) (okN_blk hc r)
  have e : (l ++ [c]) ++ r = l ++ (c :: r) := by simp
  rw [e, List.length_append]
  refine h1.trans (Going.blank (by rw [bs_size]; simp) ?_)
  have := kb_mid l (c :: r) 0
  rw [Nat.add_zero] at this
  rw [this, kb_cons, blk1_k hc]
structure Pc where
  b : List UInt8
  k : Int
  x : ByteArray
  n : Int
  s : UInt8
def pz : Pc := ⟨[], 0, ⟨#[]⟩, 0, 0⟩
def wdP (b : List UInt8) (s : UInt8) : Pc := ⟨b, 1, bs b, 0, s⟩
def nuP (n : Int) (s : UInt8) : Pc := ⟨Lib.itoa n, 2, ⟨#[]⟩, n, s⟩
end Go.Proofs.Ytnikajkklocncaa
namespace Go.Proofs.Ytnikajkklocncaa
theorem mat_setRow {n a : Nat} {g : Nat → Nat → Int} {h : Nat → Int} : (mat n g).set a ((List.range n).map h) = mat n fun r c => if r = a then h c else g r c := by
  refine List.ext_getElem (by simp [mat]) (fun i h1 h2 => ?_)
  simp only [mat, List.getElem_set, List.getElem_map, List.getElem_range]
  by_cases e : a = i
  · subst e; rw [if_pos rfl]
    exact List.map_congr_left fun c _ => (if_pos rfl).symm
  · rw [if_neg e]
    exact List.map_congr_left fun c _ => (if_neg fun q => e q.symm).symm
theorem row_of {rs : List OwR} {n a : Nat} {g : Nat → Nat → Int} (hY : rs.map (·.Y) = mat n g) (ha : a < n) : ∃ Y b c, rs[a]? = some ⟨Y, b, c⟩ ∧ Y = (List.range n).map (g a) ∧ Y.length = n := by
  have hl : rs.length = n := by have := congrArg List.length hY; simpa [mat] using this
  have e1 : (rs.map (·.Y))[a]? = some ((List.range n).map (g a)) := by rw [hY]; simp [mat, ha]
  rw [List.getElem?_map, List.getElem?_eq_getElem (by omega)] at e1
  have e2 : rs[a].Y = (List.range n).map (g a) := by simpa using e1
  exact ⟨rs[a].Y, rs[a].a, rs[a].c, List.getElem?_eq_getElem (by omega), e2, by rw [e2]; simp⟩
theorem rows_len {rs : List OwR} {n : Nat} {g : Nat → Nat → Int} (hY : rs.map (·.Y) = mat n g) : rs.length = n := by have := congrArg List.length hY; simpa [mat] using this
theorem rows_setRow {rs : List OwR} {n a : Nat} {g : Nat → Nat → Int} {u : OwR} {h : Nat → Int} (hY : rs.map (·.Y) = mat n g) (hu : u.Y = (List.range n).map h) : (rs.set a u).map (·.Y) = mat n fun r c => if r = a then h c else g r c := by
  rw [List.map_set, hY, hu, mat_setRow]
theorem rows_setCell {rs : List OwR} {n a b : Nat} {g : Nat → Nat → Int} {u : OwR} {x : Int} (hY : rs.map (·.Y) = mat n g) (hu : u.Y = ((List.range n).map (g a)).set b x) : (rs.set a u).map (·.Y) = mat n fun r c => if r = a ∧ c = b then x else g r c := by
  rw [List.map_set, hY, hu, mat_set]
theorem orV_of {rs : List OwR} {i : Nat} {Y : List Int} {a : Option Addr} {c : Nat} (h : rs[i]? = some ⟨Y, a, c⟩) : (rs.map orV)[i]? = some (.slice a Y.length c) := by rw [List.getElem?_map, h]; rfl
theorem setV {rs : List OwR} {i : Nat} {o u : OwR} (h : rs[i]? = some o) (hu : orV u = orV o) : (rs.set i u).map orV = rs.map orV := by
  obtain ⟨hi, rfl⟩ := List.getElem?_eq_some_iff.1 h
  rw [List.map_set, hu]
  have : (rs.map orV)[i]'(by simpa using hi) = orV rs[i] := by simp
  rw [← this, List.set_getElem_self]
section
variable {w0 w : World} {F : Nat → Prop} {L : List Ck} {e : TypeId} {b n : Nat} {l : List Value}
end
open Go.RowKit
section
variable {w0 w : World} {F : Nat → Prop} {c1 c2 : Ck} {ib : Nat} {t eI eR : TypeId} {G0 G : Ins} {aw av ac : Option Addr} {cw cv cc : Nat} {rs : List OwR}
end
end Go.Proofs.Ytnikajkklocncaa
namespace Go.Proofs.Ytnikajkklocncaa
def wKN : ByteArray := ⟨#[75, 78, 65, 80, 83, 65, 67, 75]⟩
def wAS : ByteArray := ⟨#[65, 83, 83, 73, 71, 78, 77, 69, 78, 84]⟩
def wTS : ByteArray := ⟨#[84, 83, 80]⟩
def wFU : ByteArray := ⟨#[70, 85, 76, 76]⟩
theorem Toks.one {X : List Tok} (h : Toks X) {j : Nat} (hj : j < X.length) (k3 : ¬ (X.getD j tz).k = 3) {y : ByteArray} (hx : (X.getD j tz).x = y) (hy : y ≠ ⟨#[]⟩) : (X.getD j tz).k = 1 := by
  rcases h.kinds j hj with g | g | g
  · exact g
  · exact absurd (hx ▸ h.two j g) hy
  · exact absurd g k3
end Go.Proofs.Ytnikajkklocncaa
namespace Go.Proofs.Ytnikajkklocncaa
def rowP : List Int → List Pc
  | [] => []
  | [x] => [nuP x 10]
  | x :: y :: l => nuP x 32 :: rowP (y :: l)
theorem rowP_len : ∀ l, (rowP l).length = l.length
  | [] => rfl
  | [_] => rfl
  | x :: y :: l => by rw [rowP, List.length_cons, rowP_len]; rfl
theorem rowP_get : ∀ (l : List Int) (c : Nat), c < l.length → ((rowP l).getD c pz).k = 2 ∧ ((rowP l).getD c pz).n = l.getD c 0
  | [], _, h => absurd h (Nat.not_lt_zero _)
  | [x], 0, _ => ⟨rfl, rfl⟩
  | [x], c + 1, h => absurd h (by simp)
  | x :: y :: l, 0, _ => ⟨rfl, rfl⟩
  | x :: y :: l, c + 1, h => by
    rw [rowP, List.getD_cons_succ, List.getD_cons_succ]
    exact rowP_get (y :: l) c (by simp at h ⊢; omega)
def itmP (i : Ins) (k : Nat) : List Pc := rowP [i.wt.getD k 0, i.vl.getD k 0]
def rwsP (i : Ins) (r : Nat) : List Pc := rowP (i.cost.getD r [])
theorem flat_len {f : Nat → List Pc} {L : Nat} : ∀ {R : Nat}, (∀ r, r < R → (f r).length = L) → ((List.range R).flatMap f).length = R * L
  | 0, _ => by simp
  | R + 1, h => by
    rw [List.range_succ, List.flatMap_append, List.length_append, flat_len (R := R) (fun r hr => h r (by omega)), Nat.add_mul, Nat.one_mul]
    simp [h R (by omega)]
theorem flat_get {f : Nat → List Pc} {L r c : Nat} (hc : c < L) : ∀ {R : Nat}, (∀ r, r < R → (f r).length = L) → r < R → ((List.range R).flatMap f).getD (r * L + c) pz = (f r).getD c pz
  | 0, _, h => absurd h (Nat.not_lt_zero _)
  | R + 1, h, hr => by
    have hl := flat_len (f := f) (L := L) (R := R) (fun r hr => h r (by omega))
    rw [List.range_succ, List.flatMap_append]
    have e1 : [R].flatMap f = f R := by simp
    rw [e1]
    simp only [List.getD_eq_getElem?_getD]
    rcases Nat.lt_succ_iff_lt_or_eq.1 hr with g | g
    · have h1 : r * L + c < R * L := by
        have : (r + 1) * L ≤ R * L := Nat.mul_le_mul_right L g
        rw [Nat.add_mul, Nat.one_mul] at this; omega
      rw [List.getElem?_append_left (by omega)]
      have := flat_get (f := f) hc (R := R) (fun r hr => h r (by omega)) g
      simpa only [List.getD_eq_getElem?_getD] using this
    · subst g
      rw [List.getElem?_append_right (by omega), hl, Nat.add_sub_cancel_left]
def hdP (i : Ins) : List Pc :=
  if i.kind = 1 then [wdP [75, 78, 65, 80, 83, 65, 67, 75] 32, nuP i.n 32, nuP i.cap 10]
  else if i.kind = 2 then [wdP [65, 83, 83, 73, 71, 78, 77, 69, 78, 84] 32, nuP i.n 10] else [wdP [84, 83, 80] 32, nuP i.n 32, wdP [70, 85, 76, 76] 10]
def pcs (i : Ins) : List Pc := hdP i ++ if i.kind = 1 then (List.range i.n.toNat).flatMap (itmP i) else (List.range i.n.toNat).flatMap (rwsP i)
def j0I (i : Ins) : Nat := if i.kind = 3 then 3 else 2
def mI (i : Ins) : Nat := if i.kind = 1 then 1 + 2 * i.n.toNat else i.n.toNat * i.n.toNat
def vN (i : Ins) (q : Nat) : Int := if i.kind = 1 then (if q = 0 then i.cap else if q % 2 = 1 then i.wt.getD (q / 2) 0 else i.vl.getD (q / 2 - 1) 0) else (i.cost.getD (q / i.n.toNat) []).getD (q % i.n.toNat) 0
theorem getD_app2P {a b : List Pc} {j : Nat} : (a ++ b).getD (a.length + j) pz = b.getD j pz := by
  rw [List.getD_eq_getElem?_getD, List.getD_eq_getElem?_getD, List.getElem?_append_right (by omega), Nat.add_sub_cancel_left]
theorem pcs_num {i : Ins} (h : InF i) {q : Nat} (hq : q < mI i) : ((pcs i).getD (j0I i + q) pz).k = 2 ∧ ((pcs i).getD (j0I i + q) pz).n = vN i q := by
  have hk := h.kind
  have hc := h.cost
  have hn := h.n1
  unfold mI at hq
  by_cases h1 : i.kind = 1
  · rw [if_pos h1] at hq
    unfold pcs hdP j0I vN
    rw [if_pos h1, if_pos h1, if_neg (by omega), if_pos h1]
    by_cases h0 : q = 0
    · subst h0; exact ⟨rfl, rfl⟩
    · rw [if_neg h0]
      have e0 : 2 + q = [wdP [75, 78, 65, 80, 83, 65, 67, 75] 32, nuP i.n 32, nuP i.cap 10].length + (q - 1) := by show _ = 3 + (q - 1); omega
      rw [e0, getD_app2P]
      have hL : ∀ r, r < i.n.toNat → (itmP i r).length = 2 := fun r _ => by rw [itmP, rowP_len]; rfl
      by_cases h2 : q % 2 = 1
      · rw [if_pos h2, show q - 1 = (q / 2) * 2 + 0 by omega, flat_get (by decide) hL (by omega)]
        exact rowP_get _ 0 (by simp)
      · rw [if_neg h2, show q - 1 = (q / 2 - 1) * 2 + 1 by omega, flat_get (by decide) hL (by omega)]
        exact rowP_get _ 1 (by simp)
  · rw [if_neg h1] at hq hc
    have hn0 : 0 < i.n.toNat := by omega
    have hdm := Nat.div_add_mod' q i.n.toNat
    have hdl : q / i.n.toNat < i.n.toNat := Nat.div_lt_of_lt_mul hq
    have hml := Nat.mod_lt q hn0
    have hL : ∀ r, r < i.n.toNat → (rwsP i r).length = i.n.toNat := fun r hr => by rw [rwsP, rowP_len]; exact h.row r (by omega)
    have key : ∀ hd : List Pc, ((hd ++ (List.range i.n.toNat).flatMap (rwsP i)).getD (hd.length + q) pz).k = 2 ∧ ((hd ++ (List.range i.n.toNat).flatMap (rwsP i)).getD (hd.length + q) pz).n = vN i q := fun hd => by
      rw [getD_app2P]
      have e1 : ((List.range i.n.toNat).flatMap (rwsP i)).getD q pz = (rwsP i (q / i.n.toNat)).getD (q % i.n.toNat) pz := by
        have := flat_get (f := rwsP i) (r := q / i.n.toNat) hml hL hdl
        rwa [hdm] at this
      rw [e1]
      unfold vN; rw [if_neg h1]
      exact rowP_get _ _ (by rw [h.row _ (by omega)]; exact hml)
    unfold pcs hdP j0I
    rw [if_neg h1, if_neg h1]
    by_cases h2 : i.kind = 2
    · rw [if_pos h2, if_neg (by omega)]; exact key _
    · rw [if_neg h2, if_pos (by omega)]; exact key _
theorem vN_bd {i : Ins} (h : InF i) (q : Nat) : 0 ≤ vN i q ∧ vN i q ≤ 2147483647 := by
  unfold vN
  split
  · split
    · exact h.cap
    · split
      · exact h.wtr _
      · exact h.vlr _
  · exact h.cell _ _
def Hd (X : List Tok) (i : Ins) (m : Nat) : Prop := ∀ j, j < j0I i + m → (X.getD j tz).k = ((pcs i).getD j pz).k ∧ (X.getD j tz).x = ((pcs i).getD j pz).x ∧ (X.getD j tz).n = ((pcs i).getD j pz).n
theorem Hd.num {X : List Tok} {i : Ins} {m : Nat} (hH : Hd X i m) (h : InF i) (hm : m ≤ mI i) {q : Nat} (hq : q < m) : (X.getD (j0I i + q) tz).k = 2 ∧ (X.getD (j0I i + q) tz).n = vN i q := by
  obtain ⟨h1, -, h3⟩ := hH (j0I i + q) (by omega)
  obtain ⟨g1, g2⟩ := pcs_num h (q := q) (by omega)
  exact ⟨h1.trans g1, h3.trans g2⟩
theorem Hd.ok {X : List Tok} {i : Ins} {m : Nat} (hH : Hd X i m) (h : InF i) (hm : m ≤ mI i) {f : Nat → Bool} (hf : ∀ q, f q = true → q < mI i → vN i q = 0) : ∀ q, q < m → nuE (f q) (X.getD (j0I i + q) tz) = 0 := fun q hq => by
  obtain ⟨h1, h2⟩ := hH.num h hm hq
  have hb := vN_bd h q
  obtain ⟨g1, g2⟩ := numR_ok (t := X.getD (j0I i + q) tz) (m := 2147483647) (by omega) (by omega) (by omega)
  exact nuE_ok g1 (fun g => g.2 (by rw [g2, h2]; exact hf q g.1 (by omega)))
theorem Hd.head {X : List Tok} {i : Ins} {m : Nat} (hH : Hd X i m) (hj : j0I i ≤ j0I i + m) : (X.getD 0 tz).k = 1 ∧ (X.getD 1 tz).k = 2 ∧ (X.getD 1 tz).n = i.n ∧ (i.kind = 1 → (X.getD 0 tz).x = wKN) ∧ (i.kind = 2 → (X.getD 0 tz).x = wAS) ∧ (¬ i.kind = 1 → ¬ i.kind = 2 → (X.getD 0 tz).x = wTS) ∧ (i.kind = 3 → (X.getD 2 tz).k = 1 ∧ (X.getD 2 tz).x = wFU) := by
  have hj2 : 2 ≤ j0I i := by unfold j0I; split <;> omega
  obtain ⟨a1, a2, a3⟩ := hH 0 (by omega)
  obtain ⟨b1, b2, b3⟩ := hH 1 (by omega)
  rw [a1, a2, b1, b3]
  unfold pcs hdP
  by_cases h1 : i.kind = 1
  · rw [if_pos h1]; exact ⟨rfl, rfl, rfl, fun _ => rfl, fun h => absurd h (by omega), fun h => absurd h1 h, fun h => absurd h (by omega)⟩
  · rw [if_neg h1]
    by_cases h2 : i.kind = 2
    · rw [if_pos h2]; exact ⟨rfl, rfl, rfl, fun h => absurd h h1, fun _ => rfl, fun _ h => absurd h2 h, fun h => absurd h (by omega)⟩
    · rw [if_neg h2]
      refine ⟨rfl, rfl, rfl, fun h => absurd h h1, fun h => absurd h h2, fun _ _ => rfl, fun h3 => ?_⟩
      obtain ⟨c1, c2, -⟩ := hH 2 (by unfold j0I; rw [if_pos h3]; omega)
      rw [c1, c2]
      unfold pcs hdP
      rw [if_neg h1, if_neg h2]
      exact ⟨rfl, rfl⟩
end Go.Proofs.Ytnikajkklocncaa
namespace Go.Proofs.Ytnikajkklocncaa
theorem numE_ok {x : Int} (h : 0 ≤ x ∧ x ≤ 2147483647) : numE x = 0 := by unfold numE; rw [if_neg (by omega), if_neg (by omega)]
theorem mat_cell {n r c : Nat} {g : Nat → Nat → Int} (hr : r < n) (hc : c < n) : ((mat n g).getD r []).getD c 0 = g r c := by
  rw [mat_row hr]; simp [List.getD, hc]
theorem form_mat {kd : Int} {n : Nat} {g : Nat → Nat → Int} (hk : kd = 2 ∨ kd = 3) (h1 : 1 ≤ n) (h24 : n ≤ 24) (hg : ∀ r c, r < n → c < n → 0 ≤ g r c ∧ g r c ≤ 2147483647) (hd : kd = 3 → ∀ r, r < n → g r r = 0) :
    sizeE ⟨kd, n, 0, [], [], mat n g⟩ = 0 ∧ shapeOK ⟨kd, n, 0, [], [], mat n g⟩ ∧ numsE ⟨kd, n, 0, [], [], mat n g⟩ = 0 := by
  refine ⟨?_, .inr ⟨by show kd ≠ 1; omega, by show ((mat n g).length : Int) = n; rw [mat_len], rfl, rfl, rfl, fun r hr => ?_⟩, ?_⟩
  · unfold sizeE; rw [if_neg (by simp only; omega), if_neg (by simp only; omega), if_neg (by simp only; omega)]
  · have hr' : r < n := by have : r < (mat n g).length := hr; rwa [mat_len] at this
    show (((mat n g).getD r []).length : Int) = n
    rw [mat_row hr']; simp
  · unfold numsE
    rw [if_neg (by show ¬ kd = 1; omega)]
    show pfx _ ((n : Int)).toNat = 0
    rw [Int.toNat_natCast]
    refine pfx_all n (fun r hr => pfx_all n (fun c hc => ?_))
    unfold cellF
    have e : (((⟨kd, (n : Int), 0, [], [], mat n g⟩ : Ins).cost).getD r []).getD c 0 = g r c := mat_cell hr hc
    rw [e, numE_ok (hg r c hr hc), if_neg (by simp), if_neg (fun q => ?_)]
    obtain ⟨⟨q1, q2⟩, q3⟩ := q
    subst q2
    exact q3 (hd q1 r hr)
end Go.Proofs.Ytnikajkklocncaa
namespace Go.Proofs.Ytnikajkklocncaa
def revG (i : Ins) (n k : Nat) : Nat → Nat → Int := fun r c => if r < k then cel i (n - 1 - r) c else cel i r c
theorem revG_zero {i : Ins} {n : Nat} : mat n (cel i) = mat n (revG i n 0) := mat_congr fun r c _ _ => by unfold revG; rw [if_neg (by omega)]
theorem revG_step {i : Ins} {n k : Nat} : mat n (fun r c => if r = k then cel i (n - 1 - k) c else revG i n k r c) = mat n (revG i n (k + 1)) := mat_congr fun r c _ _ => by
  unfold revG
  by_cases h : r = k
  · subst h; rw [if_pos rfl, if_pos (by omega)]
  · rw [if_neg h]
    by_cases g : r < k
    · rw [if_pos g, if_pos (by omega)]
    · rw [if_neg g, if_neg (by omega)]
theorem revG_all {i : Ins} {n : Nat} : mat n (revG i n n) = mat n (fun r c => cel i (n - 1 - r) c) := mat_congr fun r c hr _ => by unfold revG; rw [if_pos hr]
def rvK (x : List Int) (n k : Nat) : List Int := (List.range n).map fun q => if q < k then x.getD (n - 1 - q) 0 else x.getD q 0
theorem rvK_len (x : List Int) (n k : Nat) : (rvK x n k).length = n := by simp [rvK]
theorem rvK_zero {x : List Int} {n : Nat} (h : x.length = n) : rvK x n 0 = x := by
  subst h
  unfold rvK
  apply List.ext_getElem (by simp)
  intro q h1 h2
  simp [List.getD, h2]
theorem rvK_step {x : List Int} {n k : Nat} : (rvK x n k).set k (x.getD (n - 1 - k) 0) = rvK x n (k + 1) := by
  unfold rvK
  apply List.ext_getElem (by simp)
  intro q h1 h2
  simp only [List.getElem_set, List.getElem_map, List.getElem_range]
  split
  · rename_i e; subst e; rw [if_pos (by omega)]
  · rename_i e
    by_cases g : q < k
    · rw [if_pos g, if_pos (by omega)]
    · rw [if_neg g, if_neg (by omega)]
theorem rvK_all {x : List Int} {n : Nat} : rvK x n n = revX x n := by
  unfold rvK revX
  refine List.map_congr_left fun q hq => ?_
  rw [if_pos (List.mem_range.1 hq)]
def gS (i : Ins) (a b : Nat) : Nat → Nat → Int := fun r c => if c < r ∧ (r < a ∨ r = a ∧ c < b) then cel i c r else cel i r c
theorem gS_zero {i : Ins} {n : Nat} : mat n (cel i) = mat n (gS i 0 0) := mat_congr fun r c _ _ => by unfold gS; rw [if_neg (by omega)]
theorem gS_step {i : Ins} {n a b : Nat} (hb : b < a) : mat n (fun r c => if r = a ∧ c = b then cel i b a else gS i a b r c) = mat n (gS i a (b + 1)) := mat_congr fun r c _ _ => by
  unfold gS
  by_cases h : r = a ∧ c = b
  · rw [if_pos h, if_pos (by omega), h.1, h.2]
  · rw [if_neg h]
    by_cases g : c < r ∧ (r < a ∨ r = a ∧ c < b)
    · rw [if_pos g, if_pos (by omega)]
    · rw [if_neg g, if_neg (by omega)]
theorem gS_row {i : Ins} {n a : Nat} : mat n (gS i a a) = mat n (gS i (a + 1) 0) := mat_congr fun r c _ _ => by
  unfold gS
  by_cases g : c < r ∧ (r < a ∨ r = a ∧ c < a)
  · rw [if_pos g, if_pos (by omega)]
  · rw [if_neg g, if_neg (by omega)]
theorem gS_all {i : Ins} {n : Nat} : mat n (gS i n 0) = mat n (fun r c => cel i (min r c) (max r c)) := mat_congr fun r c hr _ => by
  unfold gS
  by_cases g : c < r
  · rw [if_pos ⟨g, .inl hr⟩, Nat.min_eq_right (by omega), Nat.max_eq_left (by omega)]
  · rw [if_neg (by omega), Nat.min_eq_left (by omega), Nat.max_eq_right (by omega)]
theorem gS_at {i : Ins} {a b : Nat} (h : b < a) : gS i a b b a = cel i b a := by unfold gS; rw [if_neg (by omega)]
def tuM (x : List Int) (n m : Nat) : List Int := 0 :: (List.range m).map fun q => x.getD (n - 1 - q) 0
theorem tuM_len (x : List Int) (n m : Nat) : (tuM x n m).length = m + 1 := by simp [tuM]
theorem tuM_step (x : List Int) (n m : Nat) : tuM x n m ++ [x.getD (n - 1 - m) 0] = tuM x n (m + 1) := by
  unfold tuM; rw [List.range_succ, List.map_append]; rfl
theorem tuM_all (x : List Int) (n : Nat) : tuM x n (n - 1) = turX x n := rfl
end Go.Proofs.Ytnikajkklocncaa
