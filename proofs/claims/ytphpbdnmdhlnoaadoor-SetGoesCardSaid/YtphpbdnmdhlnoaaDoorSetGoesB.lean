/-
  SetGoes, part 2 of 2: what the code computes, and plain laws; no condition beside those that each theorem tells.
-/
import Derived.Test.YtphpbdnmdhlnoaaDoorSetGoesA
import Derived.OpenShut
import Derived.ProofKit
namespace Go.Proofs.YtphpbdnmdhlnoaaDoor
open Go.RowKit
theorem grown_of {A B : World} (h : Below A.heap.size A B) : A.grownBy B none := ⟨h.os, h.tape, h.output, h.size, fun i hi _ => h.block i hi⟩
theorem tab_at {P : Program} {w w' : World} {name : String} {k : IntKind} {zs : List Int} {g : Nat} (h : Lib.TabIs P w name k zs) (hg : P.globalNamed name = some g) (hb : w'.heap[g]? = w.heap[g]?) : Lib.TabIs P w' name k zs := by
  unfold Lib.TabIs World.var? at *
  rw [hg] at h ⊢
  simp only [Option.bind_some] at h ⊢
  rw [hb]; exact h
theorem tab_lt {P : Program} {w : World} {name : String} {k : IntKind} {zs : List Int} {g : Nat} (h : Lib.TabIs P w name k zs) (hg : P.globalNamed name = some g) : g < w.heap.size := by
  unfold Lib.TabIs World.var? at h
  rw [hg] at h
  simp only [Option.bind_some] at h
  cases ho : w.heap[g]? with
  | none => rw [ho] at h; cases h
  | some o => exact (Array.getElem?_eq_some_iff.1 ho).1
set_option maxRecDepth 100000 in
set_option maxHeartbeats 400000 in
theorem all02 (f : Nat → Bool) (w : World) :
    Calls Tryd.prog 9 #[.agg #[.int .u64 (loW f), .int .u64 (hiW f)]] w fun e w' => ∃ b, e = .returned (.func (.func 24) #[] #[.pointer (some ⟨b, 0, none⟩)]) ∧ Mem w nof [pt b #[.int .u64 (loW f), .int .u64 (hiW f)] 24] w' := by
  have hbs := Below.refl (B := w.heap.size) w
  have hM := Mem.start w
  refine Calls.of_ends (vs := [.agg #[.int .u64 (loW f), .int .u64 (hiW f)]]) Tryd.func9 rfl Tryd.ntmps9 rfl ?_
  intro a hA
  replace hA : St 4 [(0, _)] a := hA
  refine Ends.seq (Ends.region ?_)
  refine S.box hA hM rfl rfl ?_; clear hA hM a; intro b1 w1 hb2 hM a hA
  replace hM : Mem _ _ [pt b1 #[.int .u64 (loW f), .int .u64 (hiW f)] 24] _ := hM
  refine S.val hA (R.assign rfl) rfl ?_; clear hA a; intro a hA
  refine S.done ?_
  refine Ends.seq (Ends.region ?_)
  refine S.val hA (R.to (v := .func (.func 24) #[] #[.pointer (some ⟨b1, 0, none⟩)]) (R.makeFunc rfl) rfl) rfl ?_; clear hA a; intro a hA
  refine S.val hA (R.assign rfl) rfl ?_; clear hA a; intro a hA
  refine S.done ?_
  refine Ends.ret1 Tryd.func9 Tryd.results9 hA rfl ?_
  exact ⟨b1, rfl, hM⟩
set_option maxRecDepth 100000 in
set_option maxHeartbeats 400000 in
theorem seq02 (f : Nat → Bool) (bx : Nat) (G : Nat → Prop) (hGx : G bx) (hGt : G 0) (w : World) (hq : w.heap[bx]? = some (.cells #[.int .u64 (loW f), .int .u64 (hiW f)] 24 (0, 0))) (htab : Lib.TabIs Tryd.prog w "math/bits.deBruijn64tab" .u8 debT) :
  SeqStopsK Fence.wide 8 Tryd.prog 24 #[.pointer (some ⟨bx, 0, none⟩)] (fun x : Int => #[.int .i64 x]) (KpB G) (fun xs => xs = eL f 0) (fun pre => pre = (eL f 0).take pre.length ∧ pre.length ≤ (eL f 0).length) 128 w := by
 intro l J Jx wi hbW hJ hJx hY h0
 have hqb := (hbW.block bx (Array.getElem?_eq_some_iff.1 hq).1).trans hq
 have ht9 := tab_below htab hbW
 have hM := Mem.start wi
 refine CallsIn.of_endsW (vs := [.func (.yield l) #[] #[], .pointer (some ⟨bx, 0, none⟩)]) Tryd.func24 rfl Tryd.ntmps24 rfl ?_
 intro a hA
 replace hA : St 15 [(0, _), (1, _)] a := hA
 refine EndsW.seq ?_
 refine EndsW.region ?_
 refine S.val hA (R.loadA sz24 rfl (hM.oldRange hqb) rfl) rfl ?_; clear hA a; intro a hA
 refine S.call hA (R.callF Tryd.func16 rfl rfl rfl) rfl (first02 f _ (tab_below ht9 hM.nilL.below)) ?_; clear hA a
 rintro e w1 ⟨rfl, hb⟩
 replace hM := hM.callB hb; clear hb
 refine ⟨.int .i64 (nx f 0), rfl, fun a hA => ?_⟩
 refine S.val hA (R.assign rfl) rfl ?_; clear hA a; intro a hA
 refine S.doneW ?_
 refine EndsW.block ?_
 refine EndsW.loop (σ := Nat) (fun b (a : Act) (wv : World) => St 15 [(0, .func (.yield l) #[] #[]), (1, .pointer (some ⟨bx, 0, none⟩)), (3, .int .i64 (nx f b))] a ∧ wv.heap[bx]? = some (.cells #[.int .u64 (loW f), .int .u64 (hiW f)] 24 (0, 0)) ∧ Lib.TabIs Tryd.prog wv "math/bits.deBruijn64tab" .u8 debT ∧ J ((eL f 0).take (cnt f b)) wv ∧ b ≤ 128) (fun b => 128 - b) 0 ⟨hA.sub ((.cons rfl (.cons rfl (.cons rfl .nil)))), hM.keepB hqb, (tab_below ht9 hM.nilL.below), hJ _ _ _ none h0 (grown_of hM.nilL.below) (fun r e => by cases e), by omega⟩ ?_
 clear hA hM a hqb ht9 h0
 rintro b a w2 ⟨hA, hqb, ht9, h0, hb9⟩ J9 hNext
 have hM := Mem.start w2
 refine EndsW.seq ?_
 refine EndsW.seq ?_
 refine EndsW.region ?_
 refine S.val hA (R.move rfl) rfl ?_; clear hA a; intro a hA
 refine S.val hA (R.geq rfl rfl) rfl ?_; clear hA a; intro a hA
 refine S.doneW ?_
 refine EndsW.ite hA rfl (fun hc1 => ?_) (fun hc1 => ?_)
 ·
  obtain ⟨mm, hmm⟩ : ∃ mm : Nat, nx f b = (mm : Int) := ⟨(nx f b).toNat, by omega⟩
  have hcm := eL_cons hmm
  have htk := eL_take hb9 hmm
  have hmm2 : mm < 128 := hcm.2.2.1
  have hbm := hcm.2.1
  have hcl := cnt_le f b
  rw [hmm] at hA
  refine EndsW.skip ?_
  refine EndsW.seq ?_
  refine EndsW.block ?_
  refine EndsW.seq ?_
  have hlt := (List.length_take_le (cnt f b) (eL f 0))
  have h1 := hJ _ _ _ none h0 (grown_of hM.nilL.below) (fun r e => by cases e)
  have hqb1 := hM.keepB hqb
  have ht1 := (tab_below ht9 hM.nilL.below)
  refine EndsW.regionI ?_
  refine SI.val hA (R.move rfl) rfl ?_; clear hA a; intro a hA
  refine SI.val hA (R.move rfl) rfl ?_; clear hA a; intro a hA
  refine SI.yield hA rfl rfl rfl (hY _ (mm : Int) _ h1 (by rw [List.length_take]; omega)) ?_; clear hA hM a h0 hqb ht9
  rintro e w3 (⟨rfl, h0, hK⟩ | ⟨rfl, hx0⟩)
  ·
   refine ⟨.bool true, rfl, fun a hA => ?_⟩
   refine SI.val hA (R.not rfl) rfl ?_; clear hA a; intro a hA
   refine SI.done ?_
   rw [htk.1] at h0
   have hqb := (hK bx hGx).trans hqb1
   have ht9 := tab_at ht1 (g := 0) (by kernel_rfl) (hK _ hGt)
   have hM := Mem.start w3
   replace hA : St 15 [(0, .func (.yield l) #[] #[]), (1, .pointer (some ⟨bx, 0, none⟩)), (3, .int .i64 ((mm : Int))), (14, .bool false)] a := hA.sub (.cons rfl (.cons rfl (.cons rfl (.cons rfl .nil))))
   refine EndsW.condF hA rfl ?_
   refine EndsW.skip ?_
   refine EndsW.inBlock ?_
   refine EndsW.region ?_
   refine S.val hA (R.loadA sz24 rfl (hM.oldRange hqb) rfl) rfl ?_; clear hA a; intro a hA
   refine S.val hA (R.move rfl) rfl ?_; clear hA a; intro a hA
   refine S.call hA (R.callF Tryd.func17 rfl rfl rfl) rfl (next_at f mm hmm2 _ (tab_below ht9 hM.nilL.below)) ?_; clear hA a
   rintro e w4 ⟨rfl, hb⟩
   replace hM := hM.callB hb; clear hb
   refine ⟨.int .i64 (nx f (mm + 1)), rfl, fun a hA => ?_⟩
   refine S.val hA (R.assign rfl) rfl ?_; clear hA a; intro a hA
   refine S.doneW ?_
   replace hA : St 15 [(0, _), (1, _), (3, _)] a := hA.sub ((.cons rfl (.cons rfl (.cons rfl .nil))))
   exact hNext (mm + 1) _ _ (by show 128 - (mm + 1) < 128 - b; omega) ⟨hA.sub ((.cons rfl (.cons rfl (.cons rfl .nil)))), hM.keepB hqb, (tab_below ht9 hM.nilL.below), hJ _ _ _ none h0 (grown_of hM.nilL.below) (fun r e => by cases e), by omega⟩
  ·
   refine ⟨.bool false, rfl, fun a hA => ?_⟩
   refine SI.val hA (R.not rfl) rfl ?_; clear hA a; intro a hA
   refine SI.done ?_
   replace hA : St 15 [(0, .func (.yield l) #[] #[]), (1, .pointer (some ⟨bx, 0, none⟩)), (3, .int .i64 ((mm : Int))), (14, .bool true)] a := hA.sub (.cons rfl (.cons rfl (.cons rfl (.cons rfl .nil))))
   refine EndsW.condT hA rfl ?_
   refine EndsW.retQ ?_
   refine leave0 hA.defers (results_none Tryd.results24 _ _ _) ?_
   refine ⟨⟨_, rfl⟩, .inr ⟨_, ?_, hx0⟩⟩
   rw [htk.1]
   refine ⟨?_, ?_⟩
   ·
    rw [List.length_take]; rcases Nat.le_total (cnt f (mm + 1)) (eL f 0).length with g | g
    · rw [Nat.min_eq_left g]
    · rw [Nat.min_eq_right g, List.take_length, List.take_of_length_le g]
   · rw [List.length_take]; exact Nat.min_le_right _ _
 ·
  have hn1 : nx f b = -1 := by have := nx_bd f b; omega
  have hend := eL_end hb9 hn1
  rw [hend.1] at h0
  refine EndsW.exit rfl ?_
  replace hA : St 15 [] a := hA.sub (.nil)
  refine EndsW.endQ ?_
  refine leave0 hA.defers (results_none Tryd.results24 _ _ _) ?_
  exact ⟨⟨_, rfl⟩, .inl ⟨_, rfl, hJ _ _ _ none h0 (grown_of hM.nilL.below) (fun r e => by cases e)⟩⟩
theorem Mem.apartL {w0 w : World} {F : Nat → Prop} {L M : List Ck} (h : Mem w0 F (L ++ M) w) {c : Ck} (hc : c ∈ M) {b : Nat} (hb : c.foot b) : ¬ feet L b := fun ⟨d, hd, hf⟩ => (List.pairwise_append.1 h.apart).2.2 d hd c hc b hf hb
theorem Mem.notOld {w0 w : World} {L M : List Ck} (h : Mem w0 nof (L ++ M) w) {b : Nat} (hb : b < w0.heap.size) : ¬ feet L b := fun ⟨d, hd, hf⟩ => by
  have := h.foot_new (List.mem_append_left M hd) hf
  omega
theorem enters_fn {P : Program} {f : FuncId} {fn : Func} {c : Code} (hf : P.funcs[f]? = some fn) (hname : (fn.name == "runtime.NumGoroutine") = false) (hb : fn.body = some c) : ∀ args w, (callFunc f args).run P w = .ok (.enter f args) w := by
  intro args w
  have h1 : fn.name ≠ "runtime.NumGoroutine" := by simpa using hname
  simp [callFunc, hf, h1, hb]
set_option maxRecDepth 100000 in
set_option maxHeartbeats 400000 in
theorem list02F (f : Nat → Bool) (w : World) (htab : Lib.TabIs Tryd.prog w "math/bits.deBruijn64tab" .u8 debT) :
  Calls Tryd.prog 11 #[.agg #[.int .u64 (loW f), .int .u64 (hiW f)]] w fun e w' => ∃ a c, e = .returned (.slice a ((eL f 0)).length c) ∧ IntSl w' (.slice a ((eL f 0)).length c) ((eL f 0)) ∧ frs w.heap.size a ∧ Below w.heap.size w w' := by
 have hbs := Below.refl (B := w.heap.size) w
 have hM := Mem.start w
 refine Calls.of_endsW (vs := [.agg #[.int .u64 (loW f), .int .u64 (hiW f)]]) 9 Tryd.func11 rfl Tryd.ntmps11 rfl ?_
 intro a hA
 replace hA : St 13 [(0, _)] a := hA
 refine EndsW.seq ?_
 refine EndsW.region ?_
 refine S.box hA hM rfl rfl ?_; clear hA hM a; intro b1 w1 hb2 hM a hA
 replace hM : Mem _ _ [pt b1 #[.int .u64 (loW f), .int .u64 (hiW f)] 24] _ := hM
 refine S.val hA (R.assign rfl) rfl ?_; clear hA a; intro a hA
 refine S.doneW ?_
 refine EndsW.seq ?_
 refine EndsW.region ?_
 refine S.alloc hA hM info26 rfl rfl ?_; clear hA hM a; intro b3 w2 hb4 hM a hA
 replace hM : Mem _ _ [pt b3 #[.slice none 0 0] 26, pt b1 #[.int .u64 (loW f), .int .u64 (hiW f)] 24] _ := hM
 refine S.doneW ?_
 refine EndsW.seq ?_
 refine EndsW.seq ?_
 refine EndsW.region ?_
 refine S.val hA (R.loadA sz24 rfl (hM.range (k := 1) rfl) rfl) rfl ?_; clear hA a; intro a hA
 refine S.call hA (R.callF Tryd.func9 rfl rfl rfl) rfl (all02 f _) ?_; clear hA a
 rintro e w3 ⟨bx5, rfl, hn⟩
 replace hM : Mem _ _ [pt bx5 #[.int .u64 (loW f), .int .u64 (hiW f)] 24, pt b3 #[.slice none 0 0] 26, pt b1 #[.int .u64 (loW f), .int .u64 (hiW f)] 24] _ := hM.call hn; clear hn
 refine ⟨.func (.func 24) #[] #[.pointer (some ⟨bx5, 0, none⟩)], rfl, fun a hA => ?_⟩
 refine S.doneW ?_
 replace hA : St 13 [(3, _), (6, _)] a := hA.sub ((.cons rfl (.cons rfl .nil)))
 refine EndsW.block ?_
 replace hM := hM.ownNil 3 1
 replace hM : Mem _ _ [own 3 1 (.slice none ((([] : List Int)).length) 0) ((([] : List Int)).length) ((([] : List Int)).map (Value.int .i64)), pt bx5 #[.int .u64 (loW f), .int .u64 (hiW f)] 24, pt b3 #[.slice none 0 0] 26, pt b1 #[.int .u64 (loW f), .int .u64 (hiW f)] 24] _ := hM
 replace hM := hM.front (k := 2) rfl
 replace hM : Mem _ _ [pt b3 #[.slice none (([] : List Int).length) 0] 26, own 3 1 (.slice none ((([] : List Int)).length) 0) ((([] : List Int)).length) ((([] : List Int)).map (Value.int .i64)), pt bx5 #[.int .u64 (loW f), .int .u64 (hiW f)] 24, pt b1 #[.int .u64 (loW f), .int .u64 (hiW f)] 24] _ := hM
 have hqx := hM.block (k := 2) rfl
 have htx := (tab_below htab (Mem.trans0 hbs hM.nilL))
 refine EndsW.rangeF (σ := List Int × Option Addr × Nat) (enc := fun x : Int => .int .i64 x) (NN := 128) (Kb := fun q => q = bx5 ∨ q = 0) (L := [pt b3 #[.slice none (([] : List Int).length) 0] 26, own 3 1 (.slice none ((([] : List Int)).length) 0) ((([] : List Int)).length) ((([] : List Int)).map (Value.int .i64))]) (M := [pt bx5 #[.int .u64 (loW f), .int .u64 (hiW f)] 24, pt b1 #[.int .u64 (loW f), .int .u64 (hiW f)] 24]) (fun (X, oa, oc) => [pt b3 #[.slice oa X.length oc] 26, own 3 1 (.slice oa X.length oc) X.length (X.map (Value.int .i64))]) (fun pre s => s.1 = pre) (fun _ _ _ => False) ([], none, 0) hA hM (by decide) rfl rfl rfl (enters_fn Tryd.func24 (by kernel_rfl) rfl) (seq02 f bx5 _ (.inl rfl) (.inr rfl) _ hqx htx) ?_ ?_ rfl rfl ?_ ?_ ?_
 ·
  rintro q (e9 | e9)
  · rw [e9]; exact ⟨(Array.getElem?_eq_some_iff.1 hqx).1, Mem.apartL (L := [pt b3 #[.slice none (([] : List Int).length) 0] 26, own 3 1 (.slice none ((([] : List Int)).length) 0) ((([] : List Int)).length) ((([] : List Int)).map (Value.int .i64))]) (M := [pt bx5 #[.int .u64 (loW f), .int .u64 (hiW f)] 24, pt b1 #[.int .u64 (loW f), .int .u64 (hiW f)] 24]) hM (.head _) rfl⟩
  · rw [e9]; exact ⟨tab_lt htx (by kernel_rfl), Mem.notOld (L := [pt b3 #[.slice none (([] : List Int).length) 0] 26, own 3 1 (.slice none ((([] : List Int)).length) 0) ((([] : List Int)).length) ((([] : List Int)).map (Value.int .i64))]) (M := [pt bx5 #[.int .u64 (loW f), .int .u64 (hiW f)] 24, pt b1 #[.int .u64 (loW f), .int .u64 (hiW f)] 24]) hM (tab_lt (tab_below htab hbs) (by kernel_rfl))⟩
 ·
  rintro ⟨X, oa, oc⟩ c9 hc9
  rcases List.mem_cons.1 hc9 with rfl | hc9
  · exact pt_cellsy _ _ _
  rcases List.mem_cons.1 hc9 with rfl | hc9
  · exact own_cellsy _ _ _ _ _
  cases hc9
 ·
  clear hA hM a hqx htx
  rintro l9 pre x ⟨X, oa, oc⟩ w4 hs9 hlen hM0 a hA
  have hM := hM0.here
  replace hM : Mem _ (feet [pt b3 #[.slice oa X.length oc] 26, own 3 1 (.slice oa X.length oc) X.length (X.map (Value.int .i64))]) [pt b3 #[.slice oa X.length oc] 26, own 3 1 (.slice oa X.length oc) X.length (X.map (Value.int .i64))] _ := hM
  replace hA : St 13 [(3, .pointer (some ⟨b3, 0, none⟩)), (4, .int .i64 x), (7, .int .i64 x)] a := hA.sub ((.cons rfl (.cons rfl (.cons rfl .nil))))
  have hXl : X.length < 128 := by rw [show X = pre from hs9]; exact hlen
  refine EndsW.block ?_
  refine EndsW.region ?_
  refine S.val hA (R.load sz26 rfl (hM.cell (k := 0) rfl rfl)) rfl ?_; clear hA a; intro a hA
  refine S.val hA (R.move rfl) rfl ?_; clear hA a; intro a hA
  refine S.buildSl (cells := #[.int .i64 x]) hA hM Tryd.underlying26 info3 rfl rfl rfl rfl (by kernel_rfl) rfl ?_; clear hA hM a; intro b6 w5 hb7 hM a hA
  replace hM : Mem _ _ [pt b6 #[.int .i64 x] 3, pt b3 #[.slice oa X.length oc] 26, own 3 1 (.slice oa X.length oc) X.length (X.map (Value.int .i64))] _ := hM
  refine S.append (k := 2) (k2 := 0) hA hM rfl rfl Tryd.underlying26 info3 rfl rfl rfl rfl rfl rfl rfl rfl rfl (by first | omega | (unfold maxLen; omega) | (show (_ + 1) * 8 ≤ (140737488355328 : Nat); omega) | (show (_ + _) * 8 ≤ (140737488355328 : Nat); omega)) (by first | omega | (unfold maxLen; omega) | (show (_ + 1) * 8 ≤ (140737488355328 : Nat); omega) | (show (_ + _) * 8 ≤ (140737488355328 : Nat); omega)) rfl ?_; clear hA hM a; intro a8 c9 w6 hM a hA
  replace hM : Mem _ _ [pt b6 #[.int .i64 x] 3, pt b3 #[.slice oa X.length oc] 26, own 3 1 (.slice a8 (X.length + 1) c9) (X.length + 1) (X.map (Value.int .i64) ++ [.int .i64 x])] _ := hM
  have hl10 : X.length + 1 = (X ++ [x]).length := by simp
  rw [hl10, show X.map (Value.int .i64) ++ [.int .i64 x] = (X ++ [x]).map (Value.int .i64) by simp] at hM; rw [hl10] at hA
  clear hl10
  replace hM := hM.drop 0
  replace hM : Mem _ _ [pt b3 #[.slice oa X.length oc] 26, own 3 1 (.slice a8 (((X ++ [x])).length) c9) (((X ++ [x])).length) (((X ++ [x])).map (Value.int .i64))] _ := hM
  refine S.store (k := 0) hA hM sz26 rfl rfl rfl rfl rfl ?_; clear hM
  intro w7 hM
  replace hM : Mem _ _ [pt b3 #[.slice a8 (((X ++ [x])).length) c9] 26, own 3 1 (.slice a8 (((X ++ [x])).length) c9) (((X ++ [x])).length) (((X ++ [x])).map (Value.int .i64))] _ := hM
  refine S.doneW ?_
  replace hA : St 13 [] a := hA.sub (.nil)
  refine EndsW.inBlock ?_
  refine EndsW.endQ ?_
  replace hM := hM.front (k := 1) rfl
  replace hM := hM.front (k := 1) rfl
  replace hM := hM.firstN 2
  exact ⟨((X ++ [x]), a8, c9), by rw [← (show X = pre from hs9)], hM⟩
 ·
  clear hM hqx htx
  rintro D11 xs ⟨X, oa, oc⟩ w8 hS9 hs9 hM
  replace hM : Mem _ _ [dfr D11, pt b3 #[.slice oa X.length oc] 26, own 3 1 (.slice oa X.length oc) X.length (X.map (Value.int .i64)), pt bx5 #[.int .u64 (loW f), .int .u64 (hiW f)] 24, pt b1 #[.int .u64 (loW f), .int .u64 (hiW f)] 24] _ := hM
  obtain rfl : X = xs := hs9
  have hXe : X = eL f 0 := hS9
  subst hXe
  replace hM : Mem _ _ [dfr D11, pt b3 #[.slice oa ((eL f 0).length) oc] 26, own 3 1 (.slice oa (((eL f 0)).length) oc) (((eL f 0)).length) (((eL f 0)).map (Value.int .i64)), pt bx5 #[.int .u64 (loW f), .int .u64 (hiW f)] 24, pt b1 #[.int .u64 (loW f), .int .u64 (hiW f)] 24] _ := hM
  refine EndsW.inBlock ?_
  refine EndsW.seq ?_
  refine EndsW.region ?_
  refine S.val hA (R.load sz26 rfl (hM.cell (k := 1) rfl rfl)) rfl ?_; clear hA a; intro a hA
  refine S.val hA (R.assign rfl) rfl ?_; clear hA a; intro a hA
  refine S.doneW ?_
  refine EndsW.retQ ?_
  refine leave1 hA.defers hM (fun w9 hM => ⟨by rw [results_tmp Tryd.results11, hA.getD (t := 2) rfl], ?_⟩)
  replace hM : Mem _ _ [pt b3 #[.slice oa ((eL f 0).length) oc] 26, own 3 1 (.slice oa (((eL f 0)).length) oc) (((eL f 0)).length) (((eL f 0)).map (Value.int .i64)), pt bx5 #[.int .u64 (loW f), .int .u64 (hiW f)] 24, pt b1 #[.int .u64 (loW f), .int .u64 (hiW f)] 24] _ := hM
  have hr9 := hM.rsl (k := 1) rfl
  have hf9 := hM.ownFresh (k := 1) rfl
  exact ⟨_, _, rfl, hr9, hf9, Mem.trans0 hbs hM.nilL⟩
 ·
  clear hM hqx htx
  rintro D12 c9 pre ⟨X, oa, oc⟩ w10 hS9 hx9 hM
  exact False.elim hx9
theorem list02 (f : Nat → Bool) (w : World) (htab : Lib.TabIs Tryd.prog w "math/bits.deBruijn64tab" .u8 debT) : Calls Tryd.prog 11 #[.agg #[.int .u64 (loW f), .int .u64 (hiW f)]] w (fun e w' => ∃ a c, e = .returned (.slice a ((eL f 0)).length c) ∧ IntSl w' (.slice a ((eL f 0)).length c) ((eL f 0)) ∧ Below w.heap.size w w') :=
  (list02F f w htab).mono fun e w' ⟨a, c, h1, h2, _, h3⟩ => ⟨a, c, h1, h2, h3⟩
theorem eL_s : eL (memF [3, 200, 1]) 0 = [1, 3] := by decide +kernel
theorem list_s (w : World) (htab : Lib.TabIs Tryd.prog w "math/bits.deBruijn64tab" .u8 debT) : Calls Tryd.prog 11 #[.agg #[.int .u64 (loW (memF [3, 200, 1])), .int .u64 (hiW (memF [3, 200, 1]))]] w (fun e w' => ∃ a c, e = .returned (.slice a (([1, 3] : List Int)).length c) ∧ IntSl w' (.slice a (([1, 3] : List Int)).length c) (([1, 3] : List Int)) ∧ Below w.heap.size w w') := by
  have h := list02 (memF [3, 200, 1]) w htab
  rwa [eL_s] at h
set_option maxRecDepth 100000 in
set_option maxHeartbeats 400000 in
theorem sets_any  (w : World) (htab : Lib.TabIs Tryd.prog w "math/bits.deBruijn64tab" .u8 debT) :
  Calls Tryd.prog 6 #[] w fun e w' => e = .returned (.bool true) ∧ Below w.heap.size w w' := by
 have hbs := Below.refl (B := w.heap.size) w
 have hM := Mem.start w
 refine Calls.of_ends (vs := []) Tryd.func6 rfl Tryd.ntmps6 rfl ?_
 intro a hA
 replace hA : St 31 [] a := hA
 refine Ends.seq (Ends.region ?_)
 refine S.val hA (R.assign rfl) rfl ?_; clear hA a; intro a hA
 refine S.done ?_
 refine Ends.seq (Ends.region ?_)
 refine S.buildSl (cells := #[.int .i64 3, .int .i64 200, .int .i64 1]) hA hM Tryd.underlying26 info3 rfl rfl rfl rfl (by kernel_rfl) rfl ?_; clear hA hM a; intro b1 w1 hb2 hM a hA
 replace hM : Mem _ _ [pt b1 #[.int .i64 3, .int .i64 200, .int .i64 1] 3] _ := hM
 have hq9 := hM.ptRs (k := 0) (X := ([3, 200, 1] : List Int)) rfl (by decide)
 refine S.call hA (R.callF Tryd.func22 rfl rfl rfl) rfl (of02 (some ⟨b1, 0, none⟩) [3, 200, 1] 3 _ hq9) ?_; clear hA a
 rintro e w2 ⟨rfl, hb⟩
 replace hM := hM.callB hb; clear hb
 refine ⟨.agg #[.int .u64 (loW (memF [3, 200, 1])), .int .u64 (hiW (memF [3, 200, 1]))], rfl, fun a hA => ?_⟩
 refine S.call hA (R.callF Tryd.func11 rfl rfl rfl) rfl (list_s _ (tab_below htab (Mem.trans0 hbs hM.nilL))) ?_; clear hA a
 rintro e w3 ⟨ra3, rc4, rfl, rh5, hb⟩
 replace hM := hM.callB hb; clear hb
 have hbx6 := hM.block (k := 0) rfl
 have hbs := hbs.trans (hM.below.mono hbs.size)
 replace hM := Mem.start w3
 refine ⟨.slice ra3 ((([1, 3] : List Int)).length) rc4, rfl, fun a hA => ?_⟩
 refine S.val hA (R.assign rfl) rfl ?_; clear hA a; intro a hA
 refine S.done ?_
 replace hA : St 31 [(1, _)] a := hA.sub ((.cons rfl .nil))
 refine Ends.seq (Ends.region ?_)
 refine S.val hA (R.move rfl) rfl ?_; clear hA a; intro a hA
 refine S.val hA (R.lenS Tryd.underlying26 rfl rfl) rfl ?_; clear hA a; intro a hA
 refine S.val hA (R.tt (R.eql rfl rfl) (by rfl)) rfl ?_; clear hA a; intro a hA
 refine S.val hA (R.move rfl) rfl ?_; clear hA a; intro a hA
 refine S.valg (dj := 8) hA (by kernel_rfl) rfl (R.move rfl) rfl ?_; clear hA a; intro a hA
 refine S.valg (dj := 8) hA (by kernel_rfl) rfl (R.idxI rh5 (j := 0) sl26 rfl rfl (by first | omega | decide) (rfl)) rfl ?_; clear hA a; intro a hA
 refine S.valg (dj := 8) hA (by kernel_rfl) rfl (R.loadI (rh5.mem hM) sz3 rfl (by first | omega | decide)) rfl ?_; clear hA a; intro a hA
 refine S.valg (dj := 8) hA (by kernel_rfl) rfl (R.tt (R.eql rfl rfl) (by rfl)) rfl ?_; clear hA a; intro a hA
 refine S.val hA (R.pickT rfl rfl) rfl ?_; clear hA a; intro a hA
 refine S.val hA (R.move rfl) rfl ?_; clear hA a; intro a hA
 refine S.valg (dj := 14) hA (by kernel_rfl) rfl (R.move rfl) rfl ?_; clear hA a; intro a hA
 refine S.valg (dj := 14) hA (by kernel_rfl) rfl (R.idxI rh5 (j := 1) sl26 rfl rfl (by first | omega | decide) (rfl)) rfl ?_; clear hA a; intro a hA
 refine S.valg (dj := 14) hA (by kernel_rfl) rfl (R.loadI (rh5.mem hM) sz3 rfl (by first | omega | decide)) rfl ?_; clear hA a; intro a hA
 refine S.valg (dj := 14) hA (by kernel_rfl) rfl (R.tt (R.eql rfl rfl) (by rfl)) rfl ?_; clear hA a; intro a hA
 refine S.val hA (R.pickT rfl rfl) rfl ?_; clear hA a; intro a hA
 refine S.val hA (R.move rfl) rfl ?_; clear hA a; intro a hA
 refine S.callg (dj := 20) hA (by kernel_rfl) rfl (R.callF Tryd.func23 rfl rfl rfl) rfl (full02 70 (by omega) (by omega) _) ?_; clear hA a
 rintro e w4 ⟨rfl, hb⟩
 replace hM := hM.callB hb; clear hb
 refine ⟨.agg #[.int .u64 (loW (lessF (70 : Int).toNat)), .int .u64 (hiW (lessF (70 : Int).toNat))], rfl, fun a hA => ?_⟩
 refine S.callg (dj := 20) hA (by kernel_rfl) rfl (R.callF Tryd.func21 rfl rfl rfl) rfl (count02 ((lessF (70 : Int).toNat)) _) ?_; clear hA a
 rintro e w5 ⟨rfl, hb⟩
 replace hM := hM.callB hb; clear hb
 refine ⟨.int .i64 (((cnt ((lessF (70 : Int).toNat)) 128 : Nat) : Int)), rfl, fun a hA => ?_⟩
 refine S.valg (dj := 20) hA (by kernel_rfl) rfl (R.tt (R.eql rfl rfl) (by decide +kernel)) rfl ?_; clear hA a; intro a hA
 refine S.val hA (R.pickT rfl rfl) rfl ?_; clear hA a; intro a hA
 refine S.val hA (R.move rfl) rfl ?_; clear hA a; intro a hA
 refine S.buildSlg (dj := 25) (cells := #[.int .i64 5, .int .i64 9]) hA hM (by kernel_rfl) rfl Tryd.underlying26 info3 rfl rfl rfl rfl (by kernel_rfl) rfl ?_; clear hA hM a; intro b7 w6 hb8 hM a hA
 replace hM : Mem _ _ [pt b7 #[.int .i64 5, .int .i64 9] 3] _ := hM
 have hq9 := hM.ptRs (k := 0) (X := ([5, 9] : List Int)) rfl (by decide)
 refine S.callg (dj := 25) hA (by kernel_rfl) rfl (R.callF Tryd.func22 rfl rfl rfl) rfl (of02 (some ⟨b7, 0, none⟩) [5, 9] 2 _ hq9) ?_; clear hA a
 rintro e w7 ⟨rfl, hb⟩
 replace hM := hM.callB hb; clear hb
 refine ⟨.agg #[.int .u64 (loW (memF [5, 9])), .int .u64 (hiW (memF [5, 9]))], rfl, fun a hA => ?_⟩
 refine S.callg (dj := 25) hA (by kernel_rfl) rfl (R.callF Tryd.func17 rfl rfl rfl) rfl (next02 ((memF [5, 9])) 5 (by omega) (by omega) _ (tab_below htab (Mem.trans0 hbs hM.nilL))) ?_; clear hA a
 rintro e w8 ⟨rfl, hb⟩
 replace hM := hM.callB hb; clear hb
 refine ⟨.int .i64 (nxI ((memF [5, 9])) 5), rfl, fun a hA => ?_⟩
 refine S.valg (dj := 25) hA (by kernel_rfl) rfl (R.tt (R.eql rfl rfl) (by decide +kernel)) rfl ?_; clear hA a; intro a hA
 refine S.val hA (R.pickT rfl rfl) rfl ?_; clear hA a; intro a hA
 refine S.val hA (R.assign rfl) rfl ?_; clear hA a; intro a hA
 refine S.done ?_
 replace hA : St 31 [(0, _)] a := hA.sub ((.cons rfl .nil))
 refine Ends.ret1 Tryd.func6 Tryd.results6 hA rfl ?_
 exact ⟨rfl, Mem.trans0 hbs hM.nilL⟩
def bL (f : Nat → Bool) : List Bool := (List.range 128).map f
def bK (f : Nat → Bool) (k : Nat) : List Bool := (List.range 128).map fun q => decide (q < k) && f q
theorem bL_len (f : Nat → Bool) : (bL f).length = 128 := by simp [bL]
theorem bK_len (f : Nat → Bool) (k : Nat) : (bK f k).length = 128 := by simp [bK]
theorem bL_get {f : Nat → Bool} {k : Nat} (h : k < 128) : (bL f).getD k false = f k := by simp [bL, List.getD, h]
theorem bK_zero (f : Nat → Bool) : List.replicate 128 false = bK f 0 := by
  refine List.ext_getElem (by simp [bK]) fun i h1 h2 => ?_
  rw [List.getElem_replicate]
  simp [bK]
theorem bK_all (f : Nat → Bool) : bK f 128 = bL f := List.map_congr_left fun i hi => by rw [decide_eq_true (List.mem_range.1 hi), Bool.true_and]
theorem bK_set {f : Nat → Bool} {k : Nat} (h : k < 128) : (bK f k).set k (f k) = bK f (k + 1) := by
  refine List.ext_getElem (by simp [bK]) fun i h1 h2 => ?_
  simp only [bK, List.getElem_set, List.getElem_map, List.getElem_range]
  by_cases e : k = i
  · subst e; rw [if_pos rfl, decide_eq_true (by omega), Bool.true_and]
  · rw [if_neg e]; congr 1; exact decide_eq_decide.2 (by omega)
theorem bitv {g : Nat → Bool} {m : Nat} (hm : m < 64) : decide (((wdB g 64 / 2 ^ m % 2 : Nat) : Int) = 1) = g m := by
  have e2 := wdB_bit g 64 m hm
  rw [Nat.testBit_eq_decide_div_mod_eq] at e2
  rw [← e2]; exact decide_eq_decide.2 (by omega)
theorem boo_size (f : Nat → Bool) : (boo (bL f)).size = 128 := by simp [boo, bL]
theorem boo_one0 : ∀ l : List Bool, allOne (l.map Value.bool) = true
  | [] => rfl
  | b :: l => by show ((Value.bool b).oneCell' && allOne (l.map Value.bool)) = true; rw [boo_one0 l]; rfl
theorem boo_one (l : List Bool) : allOne (boo l).toList = true := by
  have e : (boo l).toList = l.map Value.bool := by simp [boo]
  rw [e]; exact boo_one0 l
set_option maxRecDepth 100000 in
set_option maxHeartbeats 400000 in
theorem rof02 (f : Nat → Bool) (w : World) :
  Calls Tryd.prog 8 #[.agg #[.int .u64 (loW f), .int .u64 (hiW f)]] w fun e w' => e = .returned (.agg (boo (bL f))) ∧ Below w.heap.size w w' := by
 have hbs := Below.refl (B := w.heap.size) w
 have hM := Mem.start w
 refine Calls.of_ends (vs := [.agg #[.int .u64 (loW f), .int .u64 (hiW f)]]) Tryd.func8 rfl Tryd.ntmps8 rfl ?_
 intro a hA
 replace hA : St 21 [(0, _)] a := hA
 refine Ends.seq (Ends.region ?_)
 refine S.box hA hM rfl rfl ?_; clear hA hM a; intro b1 w1 hb2 hM a hA
 replace hM : Mem _ _ [pt b1 #[.int .u64 (loW f), .int .u64 (hiW f)] 23] _ := hM
 refine S.alloc hA hM info29 rfl rfl ?_; clear hA hM a; intro b3 w2 hb4 hM a hA
 replace hM : Mem _ _ [pt b3 cz0 29, pt b1 #[.int .u64 (loW f), .int .u64 (hiW f)] 23] _ := hM
 refine S.done ?_
 refine Ends.seq (Ends.region ?_)
 refine S.alloc hA hM info29 rfl rfl ?_; clear hA hM a; intro b5 w3 hb6 hM a hA
 replace hM : Mem _ _ [pt b5 cz0 29, pt b3 cz0 29, pt b1 #[.int .u64 (loW f), .int .u64 (hiW f)] 23] _ := hM
 refine S.done ?_
 refine Ends.seq (Ends.seq (Ends.region ?_))
 refine S.val hA (R.assign rfl) rfl ?_; clear hA a; intro a hA
 refine S.done ?_
 refine Ends.block ?_
 replace hM := Mem.eqM (L2 := [pt b5 ((boo (bK f 0))) 29, pt b3 cz0 29, pt b1 #[.int .u64 (loW f), .int .u64 (hiW f)] 23]) hM (by rw [← bK_zero]; rfl)
 refine Ends.loop (σ := Nat) (fun k (a : Act) (wv : World) => St 21 [(1, .pointer (some ⟨b1, 0, none⟩)), (2, .pointer (some ⟨b3, 0, none⟩)), (3, .pointer (some ⟨b5, 0, none⟩)), (4, .int .i64 ((k : Int)))] a ∧ Mem w nof [pt b5 ((boo (bK f k))) 29, pt b3 cz0 29, pt b1 #[.int .u64 (loW f), .int .u64 (hiW f)] 23] wv ∧ (k ≤ 128)) (fun k => 128 - k) 0 ⟨hA.sub ((.cons rfl (.cons rfl (.cons rfl (.cons rfl .nil))))), hM, (Nat.zero_le _)⟩ ?_
 clear hA hM a
 rintro k a w4 ⟨hA, hM, hk⟩ hNext
 refine Ends.seq (Ends.seq (Ends.region ?_))
 refine S.val hA (R.move rfl) rfl ?_; clear hA a; intro a hA
 refine S.val hA (R.lss rfl rfl) rfl ?_; clear hA a; intro a hA
 refine S.done ?_
 refine Ends.ite hA rfl (fun hc7 => ?_) (fun hc7 => ?_)
 ·
  have hbl := bK_len f k
  refine Ends.skip (Ends.seq (Ends.block ?_))
  by_cases hs8 : k < 64
  ·
   obtain ⟨m, hm, hmk⟩ : ∃ m : Nat, m < 64 ∧ k = m := ⟨k, by omega, by omega⟩
   have e9 : ((k : Int) % 64).toNat = m := by omega
   refine Ends.region ?_
   refine S.val hA (R.move rfl) rfl ?_; clear hA a; intro a hA
   refine S.val hA (R.move rfl) rfl ?_; clear hA a; intro a hA
   refine S.val hA (R.quoI rfl rfl (r := 0) (by omega) (by omega)) rfl ?_; clear hA a; intro a hA
   refine S.val hA (R.indexAddrA (q := 0) ar23 rfl rfl (by omega) (by omega)) rfl ?_; clear hA a; intro a hA
   refine S.val hA (R.load sz22 rfl (hM.cell (k := 2) rfl rfl)) rfl ?_; clear hA a; intro a hA
   refine S.val hA (R.move rfl) rfl ?_; clear hA a; intro a hA
   refine S.val hA (R.remI rfl rfl rfl (by omega)) rfl ?_; clear hA a; intro a hA
   refine S.val hA (R.to (v := .int .u64 ((wdB f 64 / 2 ^ m : Nat) : Int)) (R.shr rfl rfl (by omega)) (congrArg (Value.int .u64) (by rw [e9]; exact sh_n (X := wdB f 64) m (by omega)))) rfl ?_; clear hA a; intro a hA
   refine S.val hA (R.remI rfl rfl (r := ((wdB f 64 / 2 ^ m % 2 : Nat) : Int)) (by omega) ⟨Int.natCast_nonneg _, by decide⟩) rfl ?_; clear hA a; intro a hA
   refine S.val hA (R.to (v := .bool (f k)) (R.eql rfl rfl) (congrArg Value.bool ((bitv (g := f) hm).trans (by rw [hmk])))) rfl ?_; clear hA a; intro a hA
   refine S.val hA (R.indexAddrA (q := k) ar29 rfl rfl (by omega) (by omega)) rfl ?_; clear hA a; intro a hA
   refine S.store (k := 0) hA hM sz4 rfl rfl rfl rfl (boo_get _ _ (by omega)) ?_; clear hM
   intro w5 hM
   rw [boo_set] at hM
   replace hM : Mem _ _ [pt b5 ((boo (((bK f k)).set k (f k)))) 29, pt b3 cz0 29, pt b1 #[.int .u64 (loW f), .int .u64 (hiW f)] 23] _ := hM
   refine S.done ?_
   replace hA : St 21 [(1, _), (2, _), (3, _), (4, _)] a := hA.sub ((.cons rfl (.cons rfl (.cons rfl (.cons rfl .nil)))))
   refine Ends.inBlock (Ends.region ?_)
   refine S.val hA (R.move rfl) rfl ?_; clear hA a; intro a hA
   refine S.val hA (R.addI rfl rfl (r := ((k : Int)) + 1) rfl (by omega)) rfl ?_; clear hA a; intro a hA
   refine S.val hA (R.assign rfl) rfl ?_; clear hA a; intro a hA
   refine S.done ?_
   rw [bK_set (by omega)] at hM
   replace hM : Mem _ _ [pt b5 ((boo (bK f (k + 1)))) 29, pt b3 cz0 29, pt b1 #[.int .u64 (loW f), .int .u64 (hiW f)] 23] _ := hM
   exact hNext ((k + 1)) _ _ ((by show 128 - (k + 1) < 128 - k; omega)) ⟨hA.sub ((.cons rfl (.cons rfl (.cons rfl (.cons rfl .nil))))), hM, (by omega)⟩
  ·
   obtain ⟨m, hm, hmk⟩ : ∃ m : Nat, m < 64 ∧ k = 64 + m := ⟨k - 64, by omega, by omega⟩
   have e9 : ((k : Int) % 64).toNat = m := by omega
   refine Ends.region ?_
   refine S.val hA (R.move rfl) rfl ?_; clear hA a; intro a hA
   refine S.val hA (R.move rfl) rfl ?_; clear hA a; intro a hA
   refine S.val hA (R.quoI rfl rfl (r := 1) (by omega) (by omega)) rfl ?_; clear hA a; intro a hA
   refine S.val hA (R.indexAddrA (q := 1) ar23 rfl rfl (by omega) (by omega)) rfl ?_; clear hA a; intro a hA
   refine S.val hA (R.load sz22 rfl (hM.cell (k := 2) rfl rfl)) rfl ?_; clear hA a; intro a hA
   refine S.val hA (R.move rfl) rfl ?_; clear hA a; intro a hA
   refine S.val hA (R.remI rfl rfl rfl (by omega)) rfl ?_; clear hA a; intro a hA
   refine S.val hA (R.to (v := .int .u64 ((wdB (fun b => f (64 + b)) 64 / 2 ^ m : Nat) : Int)) (R.shr rfl rfl (by omega)) (congrArg (Value.int .u64) (by rw [e9]; exact sh_n (X := wdB (fun b => f (64 + b)) 64) m (by omega)))) rfl ?_; clear hA a; intro a hA
   refine S.val hA (R.remI rfl rfl (r := ((wdB (fun b => f (64 + b)) 64 / 2 ^ m % 2 : Nat) : Int)) (by omega) ⟨Int.natCast_nonneg _, by decide⟩) rfl ?_; clear hA a; intro a hA
   refine S.val hA (R.to (v := .bool (f k)) (R.eql rfl rfl) (congrArg Value.bool ((bitv (g := (fun b => f (64 + b))) hm).trans (by rw [hmk])))) rfl ?_; clear hA a; intro a hA
   refine S.val hA (R.indexAddrA (q := k) ar29 rfl rfl (by omega) (by omega)) rfl ?_; clear hA a; intro a hA
   refine S.store (k := 0) hA hM sz4 rfl rfl rfl rfl (boo_get _ _ (by omega)) ?_; clear hM
   intro w6 hM
   rw [boo_set] at hM
   replace hM : Mem _ _ [pt b5 ((boo (((bK f k)).set k (f k)))) 29, pt b3 cz0 29, pt b1 #[.int .u64 (loW f), .int .u64 (hiW f)] 23] _ := hM
   refine S.done ?_
   replace hA : St 21 [(1, _), (2, _), (3, _), (4, _)] a := hA.sub ((.cons rfl (.cons rfl (.cons rfl (.cons rfl .nil)))))
   refine Ends.inBlock (Ends.region ?_)
   refine S.val hA (R.move rfl) rfl ?_; clear hA a; intro a hA
   refine S.val hA (R.addI rfl rfl (r := ((k : Int)) + 1) rfl (by omega)) rfl ?_; clear hA a; intro a hA
   refine S.val hA (R.assign rfl) rfl ?_; clear hA a; intro a hA
   refine S.done ?_
   rw [bK_set (by omega)] at hM
   replace hM : Mem _ _ [pt b5 ((boo (bK f (k + 1)))) 29, pt b3 cz0 29, pt b1 #[.int .u64 (loW f), .int .u64 (hiW f)] 23] _ := hM
   exact hNext ((k + 1)) _ _ ((by show 128 - (k + 1) < 128 - k; omega)) ⟨hA.sub ((.cons rfl (.cons rfl (.cons rfl (.cons rfl .nil))))), hM, (by omega)⟩
 ·
  rw [show k = 128 by omega, bK_all] at hM
  refine Ends.exit rfl ?_
  refine Ends.seq (Ends.region ?_)
  refine S.val hA (R.loadW (k := 0) hM sz29 rfl rfl (boo_size _)) rfl ?_; clear hA a; intro a hA
  refine S.storeW (k := 1) hA hM sz29 rfl rfl (boo_size _) (boo_one _) rfl rfl ?_; clear hM
  intro w7 hM
  replace hM : Mem _ _ [pt b5 ((boo (bL f))) 29, pt b3 ((boo (bL f))) 29, pt b1 #[.int .u64 (loW f), .int .u64 (hiW f)] 23] _ := hM
  refine S.done ?_
  refine Ends.retW (k := 1) Tryd.func8 Tryd.results8 hA hM rfl rfl sz29 (boo_size _) ?_
  exact ⟨rfl, Mem.trans0 hbs hM.nilL⟩
set_option maxRecDepth 100000 in
set_option maxHeartbeats 400000 in
theorem rlist02 (f : Nat → Bool) (w : World) :
  Calls Tryd.prog 7 #[.agg ((boo (bL f)))] w fun e w' => ∃ a c, e = .returned (.slice a ((eL f 0)).length c) ∧ IntSl w' (.slice a ((eL f 0)).length c) ((eL f 0)) ∧ Below w.heap.size w w' := by
 have hbs := Below.refl (B := w.heap.size) w
 have hM := Mem.start w
 refine Calls.of_ends (vs := [.agg ((boo (bL f)))]) Tryd.func7 rfl Tryd.ntmps7 rfl ?_
 intro a hA
 replace hA : St 18 [(0, _)] a := hA
 refine Ends.seq (Ends.region ?_)
 refine S.box hA hM rfl rfl ?_; clear hA hM a; intro b1 w1 hb2 hM a hA
 replace hM : Mem _ _ [pt b1 ((boo (bL f))) 29] _ := hM
 refine S.val hA (R.assign rfl) rfl ?_; clear hA a; intro a hA
 refine S.done ?_
 refine Ends.seq (Ends.region ?_)
 refine S.buildSl0 hA hM Tryd.underlying26 info3 rfl ?_; clear hA hM a; intro b3 w2 hb4 hM a hA
 replace hM := hM.ownPt (cap := 0) (n := 0) (sz := 1) (xs := []) rfl (Nat.zero_le _) (Nat.le_refl _) rfl
 replace hM : Mem _ _ [own 3 1 (.slice ((some ⟨b3, 0, none⟩)) 0 0) 0 ((([] : List Int)).map (Value.int .i64)), pt b1 ((boo (bL f))) 29] _ := hM
 refine S.val hA (R.assign rfl) rfl ?_; clear hA a; intro a hA
 refine S.done ?_
 refine Ends.seq (Ends.seq (Ends.region ?_))
 refine S.val hA (R.assign rfl) rfl ?_; clear hA a; intro a hA
 refine S.done ?_
 refine Ends.block ?_
 replace hM := hM.front (k := 1) rfl
 replace hM := hM.front (k := 1) rfl
 replace hM : Mem _ _ [own 3 1 (.slice ((some ⟨b3, 0, none⟩)) ((((eL f 0).take (cnt f 0))).length) 0) ((((eL f 0).take (cnt f 0))).length) ((((eL f 0).take (cnt f 0))).map (Value.int .i64)), pt b1 ((boo (bL f))) 29] _ := hM
 replace hA : St 18 [(0, .agg ((boo (bL f)))), (1, .pointer (some ⟨b1, 0, none⟩)), (2, .slice none 0 0), (3, .slice ((some ⟨b3, 0, none⟩)) (((eL f 0).take (cnt f 0)).length) 0), (4, .int .i64 0), (5, .slice ((some ⟨b3, 0, none⟩)) 0 0)] a := hA.sub ((.cons rfl (.cons rfl (.cons rfl (.cons rfl (.cons rfl (.cons rfl .nil)))))))
 refine Ends.loop (σ := Nat × Option Addr × Nat) (fun (k, oa, oc) (a : Act) (wv : World) => St 18 [(1, .pointer (some ⟨b1, 0, none⟩)), (3, .slice oa (((eL f 0).take (cnt f k)).length) oc), (4, .int .i64 ((k : Int)))] a ∧ Mem w nof [own 3 1 (.slice oa ((((eL f 0).take (cnt f k))).length) oc) ((((eL f 0).take (cnt f k))).length) ((((eL f 0).take (cnt f k))).map (Value.int .i64)), pt b1 ((boo (bL f))) 29] wv ∧ (k ≤ 128)) (fun (k, oa, oc) => 128 - k) ((0, (some ⟨b3, 0, none⟩), 0)) ⟨hA.sub ((.cons rfl (.cons rfl (.cons rfl .nil)))), hM, (Nat.zero_le _)⟩ ?_
 clear hA hM a
 rintro ⟨k, oa, oc⟩ a w3 ⟨hA, hM, hk⟩ hNext
 refine Ends.seq (Ends.seq (Ends.region ?_))
 refine S.val hA (R.move rfl) rfl ?_; clear hA a; intro a hA
 refine S.val hA (R.lss rfl rfl) rfl ?_; clear hA a; intro a hA
 refine S.done ?_
 refine Ends.ite hA rfl (fun hc5 => ?_) (fun hc5 => ?_)
 ·
  have hbl := bL_len f
  have hcl := cnt_le f k
  have htl : ((eL f 0).take (cnt f k)).length ≤ 128 := by rw [List.length_take]; omega
  refine Ends.skip (Ends.seq (Ends.block (Ends.seq (Ends.region ?_))))
  refine S.val hA (R.move rfl) rfl ?_; clear hA a; intro a hA
  refine S.val hA (R.indexAddrA (q := k) ar29 rfl rfl (by omega) (by omega)) rfl ?_; clear hA a; intro a hA
  refine S.val hA (R.load sz4 rfl (hM.cell (k := 1) rfl (boo_get ((bL f)) _ (by omega)))) rfl ?_; clear hA a; intro a hA
  refine S.done ?_
  replace hA : St 18 [(1, _), (3, _), (4, _), (12, _)] a := hA.sub ((.cons rfl (.cons rfl (.cons rfl (.cons rfl .nil)))))
  refine Ends.iteB hA rfl (fun hc6 => ?_) (fun hc6 => ?_)
  ·
   rw [bL_get (show k < 128 by omega)] at hc6
   have hnk : nx f k = (k : Int) := by rw [nx_step (by omega), if_pos hc6]
   have htk := eL_take (by omega) hnk
   refine Ends.region ?_
   refine S.val hA (R.move rfl) rfl ?_; clear hA a; intro a hA
   refine S.val hA (R.move rfl) rfl ?_; clear hA a; intro a hA
   refine S.buildSl (cells := #[.int .i64 ((k : Int))]) hA hM Tryd.underlying26 info3 rfl rfl rfl rfl (by kernel_rfl) rfl ?_; clear hA hM a; intro b7 w4 hb8 hM a hA
   replace hM : Mem _ _ [pt b7 #[.int .i64 ((k : Int))] 3, own 3 1 (.slice oa ((((eL f 0).take (cnt f k))).length) oc) ((((eL f 0).take (cnt f k))).length) ((((eL f 0).take (cnt f k))).map (Value.int .i64)), pt b1 ((boo (bL f))) 29] _ := hM
   refine S.append (k := 1) (k2 := 0) hA hM rfl rfl Tryd.underlying26 info3 rfl rfl rfl rfl rfl rfl rfl rfl rfl (by first | omega | (unfold maxLen; omega) | (show (_ + 1) * 8 ≤ (140737488355328 : Nat); omega) | (show (_ + _) * 8 ≤ (140737488355328 : Nat); omega)) (by first | omega | (unfold maxLen; omega) | (show (_ + 1) * 8 ≤ (140737488355328 : Nat); omega) | (show (_ + _) * 8 ≤ (140737488355328 : Nat); omega)) rfl ?_; clear hA hM a; intro a9 c10 w5 hM a hA
   replace hM : Mem _ _ [pt b7 #[.int .i64 ((k : Int))] 3, own 3 1 (.slice a9 (((((eL f 0).take (cnt f k))).length) + 1) c10) (((((eL f 0).take (cnt f k))).length) + 1) ((((eL f 0).take (cnt f k))).map (Value.int .i64) ++ [.int .i64 ((k : Int))]), pt b1 ((boo (bL f))) 29] _ := hM
   have hl11 : ((((eL f 0).take (cnt f k))).length) + 1 = (((eL f 0).take (cnt f k)) ++ [(k : Int)]).length := by simp
   rw [hl11, show (((eL f 0).take (cnt f k))).map (Value.int .i64) ++ [.int .i64 ((k : Int))] = (((eL f 0).take (cnt f k)) ++ [(k : Int)]).map (Value.int .i64) by simp] at hM; rw [hl11] at hA
   clear hl11
   replace hM := hM.drop 0
   replace hM : Mem _ _ [own 3 1 (.slice a9 (((((eL f 0).take (cnt f k)) ++ [(k : Int)])).length) c10) (((((eL f 0).take (cnt f k)) ++ [(k : Int)])).length) (((((eL f 0).take (cnt f k)) ++ [(k : Int)])).map (Value.int .i64)), pt b1 ((boo (bL f))) 29] _ := hM
   refine S.val hA (R.assign rfl) rfl ?_; clear hA a; intro a hA
   refine S.done ?_
   replace hA : St 18 [(1, _), (3, _), (4, _)] a := hA.sub ((.cons rfl (.cons rfl (.cons rfl .nil))))
   refine Ends.inBlock (Ends.region ?_)
   refine S.val hA (R.move rfl) rfl ?_; clear hA a; intro a hA
   refine S.val hA (R.addI rfl rfl (r := ((k : Int)) + 1) rfl (by omega)) rfl ?_; clear hA a; intro a hA
   refine S.val hA (R.assign rfl) rfl ?_; clear hA a; intro a hA
   refine S.done ?_
   rw [htk.1] at hM hA
   replace hM : Mem _ _ [own 3 1 (.slice a9 ((((eL f 0).take (cnt f (k + 1)))).length) c10) ((((eL f 0).take (cnt f (k + 1)))).length) ((((eL f 0).take (cnt f (k + 1)))).map (Value.int .i64)), pt b1 ((boo (bL f))) 29] _ := hM
   replace hM := hM.front (k := 1) rfl
   replace hM := hM.front (k := 1) rfl
   exact hNext ((k + 1, a9, c10)) _ _ ((by show 128 - (k + 1) < 128 - k; omega)) ⟨hA.sub ((.cons rfl (.cons rfl (.cons rfl .nil)))), hM, (by omega)⟩
  ·
   rw [bL_get (show k < 128 by omega)] at hc6
   have hck : cnt f (k + 1) = cnt f k := by rw [cnt, if_neg (by rw [hc6]; simp)]; rfl
   refine Ends.skip (Ends.inBlock (Ends.region ?_))
   refine S.val hA (R.move rfl) rfl ?_; clear hA a; intro a hA
   refine S.val hA (R.addI rfl rfl (r := ((k : Int)) + 1) rfl (by omega)) rfl ?_; clear hA a; intro a hA
   refine S.val hA (R.assign rfl) rfl ?_; clear hA a; intro a hA
   refine S.done ?_
   rw [← hck] at hM hA
   replace hM : Mem _ _ [own 3 1 (.slice oa ((((eL f 0).take (cnt f (k + 1)))).length) oc) ((((eL f 0).take (cnt f (k + 1)))).length) ((((eL f 0).take (cnt f (k + 1)))).map (Value.int .i64)), pt b1 ((boo (bL f))) 29] _ := hM
   replace hM := hM.front (k := 1) rfl
   replace hM := hM.front (k := 1) rfl
   exact hNext ((k + 1, oa, oc)) _ _ ((by show 128 - (k + 1) < 128 - k; omega)) ⟨hA.sub ((.cons rfl (.cons rfl (.cons rfl .nil)))), hM, (by omega)⟩
 ·
  refine Ends.exit rfl ?_
  replace hA : St 18 [(3, _)] a := hA.sub ((.cons rfl .nil))
  refine Ends.seq (Ends.region ?_)
  refine S.val hA (R.move rfl) rfl ?_; clear hA a; intro a hA
  refine S.val hA (R.assign rfl) rfl ?_; clear hA a; intro a hA
  refine S.done ?_
  refine Ends.ret1 Tryd.func7 Tryd.results7 hA rfl ?_
  have he : (eL f 0).take (cnt f k) = eL f 0 := by rw [show k = 128 by omega, ← eL_len]; exact List.take_length
  rw [he] at hM
  have hr := hM.rsl (k := 0) rfl
  exact ⟨_, _, by rw [he], hr, Mem.trans0 hbs hM.nilL⟩
set_option maxRecDepth 100000 in
set_option maxHeartbeats 400000 in
theorem rsame02 (ax : Option Addr) (X : List Int) (cx : Nat) (ay : Option Addr) (cy : Nat) (w : World) (hx : IntSl w (.slice ax X.length cx) X) (hy : IntSl w (.slice ay X.length cy) X) :
  Calls Tryd.prog 10 #[.slice ax X.length cx, .slice ay X.length cy] w fun e w' => e = .returned (.bool true) ∧ Below w.heap.size w w' := by
 have hbs := Below.refl (B := w.heap.size) w
 have hlX := hx.lenB
 have hM := Mem.start w
 refine Calls.of_ends (vs := [.slice ax X.length cx, .slice ay X.length cy]) Tryd.func10 rfl Tryd.ntmps10 rfl ?_
 intro a hA
 replace hA : St 26 [(0, _), (1, _)] a := hA
 refine Ends.seq (Ends.region ?_)
 refine S.val hA (R.assign rfl) rfl ?_; clear hA a; intro a hA
 refine S.done ?_
 refine Ends.seq (Ends.seq (Ends.region ?_))
 refine S.val hA (R.move rfl) rfl ?_; clear hA a; intro a hA
 refine S.val hA (R.lenS Tryd.underlying26 rfl rfl) rfl ?_; clear hA a; intro a hA
 refine S.val hA (R.move rfl) rfl ?_; clear hA a; intro a hA
 refine S.val hA (R.lenS Tryd.underlying26 rfl rfl) rfl ?_; clear hA a; intro a hA
 refine S.val hA (R.ff (R.neq rfl rfl) (by first | decide | simp | omega)) rfl ?_; clear hA a; intro a hA
 refine S.done ?_
 replace hA : St 26 [(0, _), (1, _), (10, _)] a := hA.sub ((.cons rfl (.cons rfl (.cons rfl .nil))))
 refine Ends.condF hA rfl ?_
 refine Ends.skip (Ends.seq (Ends.seq (Ends.region ?_)))
 refine S.val hA (R.assign rfl) rfl ?_; clear hA a; intro a hA
 refine S.done ?_
 refine Ends.block ?_
 refine Ends.loop (σ := Nat) (fun k (a : Act) (wv : World) => St 26 [(0, .slice ax X.length cx), (1, .slice ay X.length cy), (5, .int .i64 ((k : Int)))] a ∧ Mem w nof [] wv ∧ (k ≤ X.length)) (fun k => X.length - k) 0 ⟨hA.sub ((.cons rfl (.cons rfl (.cons rfl .nil)))), hM, (Nat.zero_le _)⟩ ?_
 clear hA hM a
 rintro k a w1 ⟨hA, hM, hk⟩ hNext
 refine Ends.seq (Ends.seq (Ends.region ?_))
 refine S.val hA (R.move rfl) rfl ?_; clear hA a; intro a hA
 refine S.val hA (R.move rfl) rfl ?_; clear hA a; intro a hA
 refine S.val hA (R.lenS Tryd.underlying26 rfl rfl) rfl ?_; clear hA a; intro a hA
 refine S.val hA (R.lss rfl rfl) rfl ?_; clear hA a; intro a hA
 refine S.done ?_
 refine Ends.ite hA rfl (fun hc1 => ?_) (fun hc1 => ?_)
 ·
  refine Ends.skip (Ends.seq (Ends.block (Ends.seq ?_)))
  refine Ends.drawn (Mem w nof []) (.cons (0, true) (.cons (1, true) (.cons (2, true) (.cons (3, true) (.cons (4, true) (.cons (5, true) (.cons (6, true) (.cons (7, true) (.cons (8, true) .nil))))))))) 9 mixed (by kernel_rfl) (by kernel_rfl) (by kernel_rfl) hM.drew ?_
  replace hM := hM.drew
  refine D.valF hA rfl (fun _ => R.move rfl) rfl ?_; clear hA a; intro a hA
  refine D.valF hA rfl (fun _ => R.move rfl) rfl ?_; clear hA a; intro a hA
  refine D.valF hA rfl (fun _ => R.idxI hx (j := k) sl26 rfl rfl (by omega) (rfl)) rfl ?_; clear hA a; intro a hA
  refine D.val hA rfl (by kernel_rfl) (fun _ hM => R.loadI (hx.mem hM) sz3 rfl (by omega)) rfl ?_; clear hA a; intro a hA
  refine D.valF hA rfl (fun _ => R.move rfl) rfl ?_; clear hA a; intro a hA
  refine D.valF hA rfl (fun _ => R.move rfl) rfl ?_; clear hA a; intro a hA
  refine D.valF hA rfl (fun _ => R.idxI hy (j := k) sl26 rfl rfl (by omega) (rfl)) rfl ?_; clear hA a; intro a hA
  refine D.val hA rfl (by kernel_rfl) (fun _ hM => R.loadI (hy.mem hM) sz3 rfl (by omega)) rfl ?_; clear hA a; intro a hA
  refine D.valF hA rfl (fun _ => R.ff (R.neq rfl rfl) (not_not_intro rfl)) rfl ?_; clear hA a; intro a hA
  refine D.done ?_
  replace hA : St 26 [(0, _), (1, _), (5, _), (25, _)] a := hA.sub ((.cons rfl (.cons rfl (.cons rfl (.cons rfl .nil)))))
  refine Ends.condF hA rfl ?_
  refine Ends.skip (Ends.inBlock (Ends.region ?_))
  refine S.val hA (R.move rfl) rfl ?_; clear hA a; intro a hA
  refine S.val hA (R.addI rfl rfl (r := ((k : Int)) + 1) rfl (by omega)) rfl ?_; clear hA a; intro a hA
  refine S.val hA (R.assign rfl) rfl ?_; clear hA a; intro a hA
  refine S.done ?_
  exact hNext ((k + 1)) _ _ ((by show X.length - (k + 1) < X.length - k; omega)) ⟨hA.sub ((.cons rfl (.cons rfl (.cons rfl .nil)))), hM, (by omega)⟩
 ·
  refine Ends.exit rfl ?_
  replace hA : St 26 [] a := hA.sub (.nil)
  refine Ends.seq (Ends.region ?_)
  refine S.val hA (R.assign rfl) rfl ?_; clear hA a; intro a hA
  refine S.done ?_
  refine Ends.ret1 Tryd.func10 Tryd.results10 hA rfl ?_
  exact ⟨rfl, Mem.trans0 hbs hM.nilL⟩
end Go.Proofs.YtphpbdnmdhlnoaaDoor
namespace Go.Proofs.YtphpbdnmdhlnoaaDoor
open Go.RowKit
theorem two_of {l : List Int} (h : l.length = 2) : ∃ x y, l = [x, y] := by
  match l, h with
  | [x, y], _ => exact ⟨x, y, rfl⟩
theorem set_of {l : List Int} (h : l.length = 2) (hw : ∀ x ∈ l, (Lit.int .u64 x).wf = true) : ∃ f, Value.agg (l.map (Value.int .u64)).toArray = .agg #[.int .u64 (loW f), .int .u64 (hiW f)] := by
  obtain ⟨x, y, rfl⟩ := two_of h
  exact ⟨setF x y, by rw [lo_set (bd_u64 (hw x (by simp))), hi_set (bd_u64 (hw y (by simp)))]; rfl⟩
end Go.Proofs.YtphpbdnmdhlnoaaDoor
namespace Go.Proofs.YtphpbdnmdhlnoaaDoor
open Go.RowKit
set_option maxRecDepth 100000 in
set_option maxHeartbeats 400000 in
theorem setGoes_w (f : Nat → Bool) (leave : Int) (w : World) (htab : Lib.TabIs Tryd.prog w "math/bits.deBruijn64tab" .u8 debT) :
  Calls Tryd.prog 3 #[.agg #[.int .u64 (loW f), .int .u64 (hiW f)], .int .i64 leave] w fun e w' => e = .returned (.bool true) ∧ Below w.heap.size w w' := by
 have hbs := Below.refl (B := w.heap.size) w
 have hM := Mem.start w
 refine Calls.of_endsW (vs := [.agg #[.int .u64 (loW f), .int .u64 (hiW f)], .int .i64 leave]) 9 Tryd.func3 rfl Tryd.ntmps3 rfl ?_
 intro a hA
 replace hA : St 59 [(0, _), (1, _)] a := hA
 refine EndsW.seq ?_
 refine EndsW.region ?_
 refine S.box hA hM rfl rfl ?_; clear hA hM a; intro b1 w1 hb2 hM a hA
 replace hM : Mem _ _ [pt b1 #[.int .u64 (loW f), .int .u64 (hiW f)] 24] _ := hM
 refine S.val hA (R.assign rfl) rfl ?_; clear hA a; intro a hA
 refine S.doneW ?_
 refine EndsW.seq ?_
 refine EndsW.seq ?_
 refine EndsW.region ?_
 refine S.call hA (R.callF Tryd.func6 rfl rfl rfl) rfl (sets_any _ (tab_below htab (Mem.trans0 hbs hM.nilL))) ?_; clear hA a
 rintro e w2 ⟨rfl, hb⟩
 replace hM := hM.callB hb; clear hb
 refine ⟨.bool true, rfl, fun a hA => ?_⟩
 refine S.val hA (R.not rfl) rfl ?_; clear hA a; intro a hA
 refine S.doneW ?_
 refine EndsW.condF hA rfl ?_
 refine EndsW.skip ?_
 refine EndsW.seq ?_
 refine EndsW.region ?_
 refine S.val hA (R.loadA sz24 rfl (hM.range (k := 0) rfl) rfl) rfl ?_; clear hA a; intro a hA
 refine S.call hA (R.callF Tryd.func8 rfl rfl rfl) rfl (rof02 f _) ?_; clear hA a
 rintro e w3 ⟨rfl, hb⟩
 replace hM := hM.callB hb; clear hb
 refine ⟨.agg ((boo (bL f))), rfl, fun a hA => ?_⟩
 refine S.call hA (R.callF Tryd.func7 rfl rfl rfl) rfl (rlist02 f _) ?_; clear hA a
 rintro e w4 ⟨ra3, rc4, rfl, rh5, hb⟩
 replace hM := hM.callB hb; clear hb
 have hbx6 := hM.block (k := 0) rfl
 have hbs := hbs.trans (hM.below.mono hbs.size)
 replace hM := Mem.start w4
 refine ⟨.slice ra3 (((eL f 0)).length) rc4, rfl, fun a hA => ?_⟩
 refine S.val hA (R.assign rfl) rfl ?_; clear hA a; intro a hA
 refine S.doneW ?_
 replace hA : St 59 [(1, _), (2, _), (5, _)] a := hA.sub ((.cons rfl (.cons rfl (.cons rfl .nil))))
 refine EndsW.seq ?_
 refine EndsW.region ?_
 refine S.alloc hA hM info26 rfl rfl ?_; clear hA hM a; intro b7 w5 hb8 hM a hA
 replace hM : Mem _ _ [pt b7 #[.slice none 0 0] 26] _ := hM
 refine S.alloc hA hM info26 rfl rfl ?_; clear hA hM a; intro b9 w6 hb10 hM a hA
 replace hM : Mem _ _ [pt b9 #[.slice none 0 0] 26, pt b7 #[.slice none 0 0] 26] _ := hM
 refine S.doneW ?_
 refine EndsW.seq ?_
 refine EndsW.seq ?_
 refine EndsW.region ?_
 refine S.val hA (R.loadA sz24 rfl (hM.oldRange hbx6) rfl) rfl ?_; clear hA a; intro a hA
 refine S.call hA (R.callF Tryd.func9 rfl rfl rfl) rfl (all02 f _) ?_; clear hA a
 rintro e w7 ⟨bx11, rfl, hn⟩
 replace hM : Mem _ _ [pt bx11 #[.int .u64 (loW f), .int .u64 (hiW f)] 24, pt b9 #[.slice none 0 0] 26, pt b7 #[.slice none 0 0] 26] _ := hM.call hn; clear hn
 refine ⟨.func (.func 24) #[] #[.pointer (some ⟨bx11, 0, none⟩)], rfl, fun a hA => ?_⟩
 refine S.doneW ?_
 refine EndsW.block ?_
 replace hM := hM.ownNil 3 1
 replace hM : Mem _ _ [own 3 1 (.slice none ((([] : List Int)).length) 0) ((([] : List Int)).length) ((([] : List Int)).map (Value.int .i64)), pt bx11 #[.int .u64 (loW f), .int .u64 (hiW f)] 24, pt b9 #[.slice none 0 0] 26, pt b7 #[.slice none 0 0] 26] _ := hM
 replace hM := hM.front (k := 3) rfl
 replace hM : Mem _ _ [pt b7 #[.slice none (([] : List Int).length) 0] 26, own 3 1 (.slice none ((([] : List Int)).length) 0) ((([] : List Int)).length) ((([] : List Int)).map (Value.int .i64)), pt bx11 #[.int .u64 (loW f), .int .u64 (hiW f)] 24, pt b9 #[.slice none 0 0] 26] _ := hM
 have hqx := hM.block (k := 2) rfl
 have htx := (tab_below htab (Mem.trans0 hbs hM.nilL))
 refine EndsW.rangeF (σ := List Int × Option Addr × Nat) (enc := fun x : Int => .int .i64 x) (NN := 128) (Kb := fun q => q = bx11 ∨ q = 0) (L := [pt b7 #[.slice none (([] : List Int).length) 0] 26, own 3 1 (.slice none ((([] : List Int)).length) 0) ((([] : List Int)).length) ((([] : List Int)).map (Value.int .i64))]) (M := [pt bx11 #[.int .u64 (loW f), .int .u64 (hiW f)] 24, pt b9 #[.slice none 0 0] 26]) (fun (X, oa, oc) => [pt b7 #[.slice oa X.length oc] 26, own 3 1 (.slice oa X.length oc) X.length (X.map (Value.int .i64))]) (fun pre s => s.1 = pre) (fun _ _ _ => False) ([], none, 0) hA hM (by decide) rfl rfl rfl (enters_fn Tryd.func24 (by kernel_rfl) rfl) (seq02 f bx11 _ (.inl rfl) (.inr rfl) _ hqx htx) ?_ ?_ rfl rfl ?_ ?_ ?_
 ·
  rintro q (e9 | e9)
  · rw [e9]; exact ⟨(Array.getElem?_eq_some_iff.1 hqx).1, Mem.apartL (L := [pt b7 #[.slice none (([] : List Int).length) 0] 26, own 3 1 (.slice none ((([] : List Int)).length) 0) ((([] : List Int)).length) ((([] : List Int)).map (Value.int .i64))]) (M := [pt bx11 #[.int .u64 (loW f), .int .u64 (hiW f)] 24, pt b9 #[.slice none 0 0] 26]) hM (.head _) rfl⟩
  · rw [e9]; exact ⟨tab_lt htx (by kernel_rfl), Mem.notOld (L := [pt b7 #[.slice none (([] : List Int).length) 0] 26, own 3 1 (.slice none ((([] : List Int)).length) 0) ((([] : List Int)).length) ((([] : List Int)).map (Value.int .i64))]) (M := [pt bx11 #[.int .u64 (loW f), .int .u64 (hiW f)] 24, pt b9 #[.slice none 0 0] 26]) hM (tab_lt (tab_below htab hbs) (by kernel_rfl))⟩
 ·
  rintro ⟨X, oa, oc⟩ c9 hc9
  rcases List.mem_cons.1 hc9 with rfl | hc9
  · exact pt_cellsy _ _ _
  rcases List.mem_cons.1 hc9 with rfl | hc9
  · exact own_cellsy _ _ _ _ _
  cases hc9
 ·
  clear hA hM a hqx htx
  rintro l9 pre x ⟨X, oa, oc⟩ w8 hs9 hlen hM0 a hA
  have hM := hM0.here
  replace hM : Mem _ (feet [pt b7 #[.slice oa X.length oc] 26, own 3 1 (.slice oa X.length oc) X.length (X.map (Value.int .i64))]) [pt b7 #[.slice oa X.length oc] 26, own 3 1 (.slice oa X.length oc) X.length (X.map (Value.int .i64))] _ := hM
  replace hA : St 59 [(6, .pointer (some ⟨b7, 0, none⟩)), (8, .int .i64 x), (18, .int .i64 x)] a := hA.sub ((.cons rfl (.cons rfl (.cons rfl .nil))))
  have hXl : X.length < 128 := by rw [show X = pre from hs9]; exact hlen
  refine EndsW.block ?_
  refine EndsW.region ?_
  refine S.val hA (R.load sz26 rfl (hM.cell (k := 0) rfl rfl)) rfl ?_; clear hA a; intro a hA
  refine S.val hA (R.move rfl) rfl ?_; clear hA a; intro a hA
  refine S.buildSl (cells := #[.int .i64 x]) hA hM Tryd.underlying26 info3 rfl rfl rfl rfl (by kernel_rfl) rfl ?_; clear hA hM a; intro b12 w9 hb13 hM a hA
  replace hM : Mem _ _ [pt b12 #[.int .i64 x] 3, pt b7 #[.slice oa X.length oc] 26, own 3 1 (.slice oa X.length oc) X.length (X.map (Value.int .i64))] _ := hM
  refine S.append (k := 2) (k2 := 0) hA hM rfl rfl Tryd.underlying26 info3 rfl rfl rfl rfl rfl rfl rfl rfl rfl (by first | omega | (unfold maxLen; omega) | (show (_ + 1) * 8 ≤ (140737488355328 : Nat); omega) | (show (_ + _) * 8 ≤ (140737488355328 : Nat); omega)) (by first | omega | (unfold maxLen; omega) | (show (_ + 1) * 8 ≤ (140737488355328 : Nat); omega) | (show (_ + _) * 8 ≤ (140737488355328 : Nat); omega)) rfl ?_; clear hA hM a; intro a14 c15 w10 hM a hA
  replace hM : Mem _ _ [pt b12 #[.int .i64 x] 3, pt b7 #[.slice oa X.length oc] 26, own 3 1 (.slice a14 (X.length + 1) c15) (X.length + 1) (X.map (Value.int .i64) ++ [.int .i64 x])] _ := hM
  have hl16 : X.length + 1 = (X ++ [x]).length := by simp
  rw [hl16, show X.map (Value.int .i64) ++ [.int .i64 x] = (X ++ [x]).map (Value.int .i64) by simp] at hM; rw [hl16] at hA
  clear hl16
  replace hM := hM.drop 0
  replace hM : Mem _ _ [pt b7 #[.slice oa X.length oc] 26, own 3 1 (.slice a14 (((X ++ [x])).length) c15) (((X ++ [x])).length) (((X ++ [x])).map (Value.int .i64))] _ := hM
  refine S.store (k := 0) hA hM sz26 rfl rfl rfl rfl rfl ?_; clear hM
  intro w11 hM
  replace hM : Mem _ _ [pt b7 #[.slice a14 (((X ++ [x])).length) c15] 26, own 3 1 (.slice a14 (((X ++ [x])).length) c15) (((X ++ [x])).length) (((X ++ [x])).map (Value.int .i64))] _ := hM
  refine S.doneW ?_
  replace hA : St 59 [] a := hA.sub (.nil)
  refine EndsW.inBlock ?_
  refine EndsW.endQ ?_
  replace hM := hM.front (k := 1) rfl
  replace hM := hM.front (k := 1) rfl
  replace hM := hM.firstN 2
  exact ⟨((X ++ [x]), a14, c15), by rw [← (show X = pre from hs9)], hM⟩
 ·
  clear hM hqx htx
  rintro D17 xs ⟨X, oa, oc⟩ w12 hS9 hs9 hM
  replace hM : Mem _ _ [dfr D17, pt b7 #[.slice oa X.length oc] 26, own 3 1 (.slice oa X.length oc) X.length (X.map (Value.int .i64)), pt bx11 #[.int .u64 (loW f), .int .u64 (hiW f)] 24, pt b9 #[.slice none 0 0] 26] _ := hM
  obtain rfl : X = xs := hs9
  have hXe : X = eL f 0 := hS9
  subst hXe
  replace hM : Mem _ _ [dfr D17, pt b7 #[.slice oa ((eL f 0).length) oc] 26, own 3 1 (.slice oa (((eL f 0)).length) oc) (((eL f 0)).length) (((eL f 0)).map (Value.int .i64)), pt bx11 #[.int .u64 (loW f), .int .u64 (hiW f)] 24, pt b9 #[.slice none 0 0] 26] _ := hM
  refine EndsW.inBlock ?_
  refine EndsW.seq ?_
  refine EndsW.region ?_
  refine S.val hA (R.move rfl) rfl ?_; clear hA a; intro a hA
  refine S.val hA (R.conv Tryd.underlying22 Tryd.underlying3 rfl) rfl ?_; clear hA a; intro a hA
  refine S.val hA (R.remI rfl rfl rfl ⟨u64_nn _, by decide⟩) rfl ?_; clear hA a; intro a hA
  obtain ⟨n18, hn19, en20⟩ := umod_ex leave 130 (by decide)
  refine S.val hA (R.to (v := .int .i64 (n18 : Int)) (R.conv Tryd.underlying3 Tryd.underlying22 rfl) (congrArg (Value.int .i64) en20)) rfl ?_; clear hA a; intro a hA
  refine S.alloc hA hM info3 rfl rfl ?_; clear hA hM a; intro b21 w13 hb22 hM a hA
  replace hM : Mem _ _ [pt b21 #[.int .i64 0] 3, dfr D17, pt b7 #[.slice oa (((eL f 0)).length) oc] 26, own 3 1 (.slice oa (((eL f 0)).length) oc) (((eL f 0)).length) (((eL f 0)).map (Value.int .i64)), pt bx11 #[.int .u64 (loW f), .int .u64 (hiW f)] 24, pt b9 #[.slice none 0 0] 26] _ := hM
  refine S.store (k := 0) hA hM sz3 rfl rfl rfl rfl rfl ?_; clear hM
  intro w14 hM
  replace hM : Mem _ _ [pt b21 #[.int .i64 ((n18 : Int))] 3, dfr D17, pt b7 #[.slice oa (((eL f 0)).length) oc] 26, own 3 1 (.slice oa (((eL f 0)).length) oc) (((eL f 0)).length) (((eL f 0)).map (Value.int .i64)), pt bx11 #[.int .u64 (loW f), .int .u64 (hiW f)] 24, pt b9 #[.slice none 0 0] 26] _ := hM
  refine S.doneW ?_
  replace hA : St 59 [(2, _), (5, _), (6, _), (7, _), (9, _)] a := hA.sub ((.cons rfl (.cons rfl (.cons rfl (.cons rfl (.cons rfl .nil))))))
  refine EndsW.seq ?_
  refine EndsW.seq ?_
  refine EndsW.region ?_
  refine S.val hA (R.load sz3 rfl (hM.cell (k := 0) rfl rfl)) rfl ?_; clear hA a; intro a hA
  refine S.val hA (R.gtr rfl rfl) rfl ?_; clear hA a; intro a hA
  refine S.doneW ?_
  refine EndsW.ite hA rfl (fun hc23 => ?_) (fun hc23 => ?_)
  ·
   refine EndsW.seq ?_
   refine EndsW.region ?_
   refine S.val hA (R.loadA sz24 rfl (hM.oldRange hbx6) rfl) rfl ?_; clear hA a; intro a hA
   refine S.call hA (R.callF Tryd.func9 rfl rfl rfl) rfl (all02 f _) ?_; clear hA a
   rintro e w15 ⟨bx24, rfl, hn⟩
   replace hM : Mem _ _ [pt bx24 #[.int .u64 (loW f), .int .u64 (hiW f)] 24, pt b21 #[.int .i64 ((n18 : Int))] 3, dfr D17, pt b7 #[.slice oa (((eL f 0)).length) oc] 26, own 3 1 (.slice oa (((eL f 0)).length) oc) (((eL f 0)).length) (((eL f 0)).map (Value.int .i64)), pt bx11 #[.int .u64 (loW f), .int .u64 (hiW f)] 24, pt b9 #[.slice none 0 0] 26] _ := hM.call hn; clear hn
   refine ⟨.func (.func 24) #[] #[.pointer (some ⟨bx24, 0, none⟩)], rfl, fun a hA => ?_⟩
   refine S.doneW ?_
   refine EndsW.block ?_
   replace hM := hM.ownNil 3 1
   replace hM : Mem _ _ [own 3 1 (.slice none ((([] : List Int)).length) 0) ((([] : List Int)).length) ((([] : List Int)).map (Value.int .i64)), pt bx24 #[.int .u64 (loW f), .int .u64 (hiW f)] 24, pt b21 #[.int .i64 ((n18 : Int))] 3, dfr D17, pt b7 #[.slice oa (((eL f 0)).length) oc] 26, own 3 1 (.slice oa (((eL f 0)).length) oc) (((eL f 0)).length) (((eL f 0)).map (Value.int .i64)), pt bx11 #[.int .u64 (loW f), .int .u64 (hiW f)] 24, pt b9 #[.slice none 0 0] 26] _ := hM
   replace hM := hM.front (k := 2) rfl
   replace hM := hM.front (k := 1) rfl
   replace hM := hM.front (k := 7) rfl
   replace hM : Mem _ _ [pt b9 #[.slice none (([] : List Int).length) 0] 26, own 3 1 (.slice none ((([] : List Int)).length) 0) ((([] : List Int)).length) ((([] : List Int)).map (Value.int .i64)), pt b21 #[.int .i64 ((n18 : Int))] 3, pt bx24 #[.int .u64 (loW f), .int .u64 (hiW f)] 24, dfr D17, pt b7 #[.slice oa (((eL f 0)).length) oc] 26, own 3 1 (.slice oa (((eL f 0)).length) oc) (((eL f 0)).length) (((eL f 0)).map (Value.int .i64)), pt bx11 #[.int .u64 (loW f), .int .u64 (hiW f)] 24] _ := hM
   have hqx := hM.block (k := 3) rfl
   have htx := (tab_below htab (Mem.trans0 hbs hM.nilL))
   refine EndsW.rangeF (σ := List Int × Option Addr × Nat) (enc := fun x : Int => .int .i64 x) (NN := 128) (Kb := fun q => q = bx24 ∨ q = 0) (L := [pt b9 #[.slice none (([] : List Int).length) 0] 26, own 3 1 (.slice none ((([] : List Int)).length) 0) ((([] : List Int)).length) ((([] : List Int)).map (Value.int .i64)), pt b21 #[.int .i64 ((n18 : Int))] 3]) (M := [pt bx24 #[.int .u64 (loW f), .int .u64 (hiW f)] 24, dfr D17, pt b7 #[.slice oa (((eL f 0)).length) oc] 26, own 3 1 (.slice oa (((eL f 0)).length) oc) (((eL f 0)).length) (((eL f 0)).map (Value.int .i64)), pt bx11 #[.int .u64 (loW f), .int .u64 (hiW f)] 24]) (fun (X, oz, ocz) => [pt b9 #[.slice oz X.length ocz] 26, own 3 1 (.slice oz X.length ocz) X.length (X.map (Value.int .i64)), pt b21 #[.int .i64 ((n18 : Int))] 3]) (fun pre s => s.1 = pre ∧ s.1.length < n18) (fun c pre s => c = .exit 2 ∧ s.1 = pre ∧ s.1.length = n18) ([], none, 0) hA hM (by decide) rfl rfl rfl (enters_fn Tryd.func24 (by kernel_rfl) rfl) (seq02 f bx24 _ (.inl rfl) (.inr rfl) _ hqx htx) ?_ ?_ (⟨rfl, by show 0 < n18; omega⟩) rfl ?_ ?_ ?_
   ·
    rintro q (e9 | e9)
    · rw [e9]; exact ⟨(Array.getElem?_eq_some_iff.1 hqx).1, Mem.apartL (L := [pt b9 #[.slice none (([] : List Int).length) 0] 26, own 3 1 (.slice none ((([] : List Int)).length) 0) ((([] : List Int)).length) ((([] : List Int)).map (Value.int .i64)), pt b21 #[.int .i64 ((n18 : Int))] 3]) (M := [pt bx24 #[.int .u64 (loW f), .int .u64 (hiW f)] 24, dfr D17, pt b7 #[.slice oa (((eL f 0)).length) oc] 26, own 3 1 (.slice oa (((eL f 0)).length) oc) (((eL f 0)).length) (((eL f 0)).map (Value.int .i64)), pt bx11 #[.int .u64 (loW f), .int .u64 (hiW f)] 24]) hM (.head _) rfl⟩
    · rw [e9]; exact ⟨tab_lt htx (by kernel_rfl), Mem.notOld (L := [pt b9 #[.slice none (([] : List Int).length) 0] 26, own 3 1 (.slice none ((([] : List Int)).length) 0) ((([] : List Int)).length) ((([] : List Int)).map (Value.int .i64)), pt b21 #[.int .i64 ((n18 : Int))] 3]) (M := [pt bx24 #[.int .u64 (loW f), .int .u64 (hiW f)] 24, dfr D17, pt b7 #[.slice oa (((eL f 0)).length) oc] 26, own 3 1 (.slice oa (((eL f 0)).length) oc) (((eL f 0)).length) (((eL f 0)).map (Value.int .i64)), pt bx11 #[.int .u64 (loW f), .int .u64 (hiW f)] 24]) hM (tab_lt (tab_below htab hbs) (by kernel_rfl))⟩
   ·
    rintro ⟨X, oz, ocz⟩ c9 hc9
    rcases List.mem_cons.1 hc9 with rfl | hc9
    · exact pt_cellsy _ _ _
    rcases List.mem_cons.1 hc9 with rfl | hc9
    · exact own_cellsy _ _ _ _ _
    rcases List.mem_cons.1 hc9 with rfl | hc9
    · exact pt_cellsy _ _ _
    cases hc9
   ·
    clear hA hM a hqx htx
    rintro l9 pre x ⟨X, oz, ocz⟩ w16 hs9 hlen hM0 a hA
    have hM := hM0.here
    replace hM : Mem _ (feet [pt b9 #[.slice oz X.length ocz] 26, own 3 1 (.slice oz X.length ocz) X.length (X.map (Value.int .i64)), pt b21 #[.int .i64 ((n18 : Int))] 3]) [pt b9 #[.slice oz X.length ocz] 26, own 3 1 (.slice oz X.length ocz) X.length (X.map (Value.int .i64)), pt b21 #[.int .i64 ((n18 : Int))] 3] _ := hM
    replace hA : St 59 [(7, .pointer (some ⟨b9, 0, none⟩)), (9, .pointer (some ⟨b21, 0, none⟩)), (10, .int .i64 x), (31, .int .i64 x)] a := hA.sub ((.cons rfl (.cons rfl (.cons rfl (.cons rfl .nil)))))
    have hXl : X.length < 128 := by rw [show X = pre from hs9.1]; exact hlen
    have hXn : X.length < n18 := hs9.2
    refine EndsW.block ?_
    refine EndsW.seq ?_
    refine EndsW.region ?_
    refine S.val hA (R.load sz26 rfl (hM.cell (k := 0) rfl rfl)) rfl ?_; clear hA a; intro a hA
    refine S.val hA (R.move rfl) rfl ?_; clear hA a; intro a hA
    refine S.buildSl (cells := #[.int .i64 x]) hA hM Tryd.underlying26 info3 rfl rfl rfl rfl (by kernel_rfl) rfl ?_; clear hA hM a; intro b25 w17 hb26 hM a hA
    replace hM : Mem _ _ [pt b25 #[.int .i64 x] 3, pt b9 #[.slice oz X.length ocz] 26, own 3 1 (.slice oz X.length ocz) X.length (X.map (Value.int .i64)), pt b21 #[.int .i64 ((n18 : Int))] 3] _ := hM
    refine S.append (k := 2) (k2 := 0) hA hM rfl rfl Tryd.underlying26 info3 rfl rfl rfl rfl rfl rfl rfl rfl rfl (by first | omega | (unfold maxLen; omega) | (show (_ + 1) * 8 ≤ (140737488355328 : Nat); omega) | (show (_ + _) * 8 ≤ (140737488355328 : Nat); omega)) (by first | omega | (unfold maxLen; omega) | (show (_ + 1) * 8 ≤ (140737488355328 : Nat); omega) | (show (_ + _) * 8 ≤ (140737488355328 : Nat); omega)) rfl ?_; clear hA hM a; intro a27 c28 w18 hM a hA
    replace hM : Mem _ _ [pt b25 #[.int .i64 x] 3, pt b9 #[.slice oz X.length ocz] 26, own 3 1 (.slice a27 (X.length + 1) c28) (X.length + 1) (X.map (Value.int .i64) ++ [.int .i64 x]), pt b21 #[.int .i64 ((n18 : Int))] 3] _ := hM
    have hl29 : X.length + 1 = (X ++ [x]).length := by simp
    rw [hl29, show X.map (Value.int .i64) ++ [.int .i64 x] = (X ++ [x]).map (Value.int .i64) by simp] at hM; rw [hl29] at hA
    clear hl29
    replace hM := hM.drop 0
    replace hM : Mem _ _ [pt b9 #[.slice oz X.length ocz] 26, own 3 1 (.slice a27 (((X ++ [x])).length) c28) (((X ++ [x])).length) (((X ++ [x])).map (Value.int .i64)), pt b21 #[.int .i64 ((n18 : Int))] 3] _ := hM
    refine S.store (k := 0) hA hM sz26 rfl rfl rfl rfl rfl ?_; clear hM
    intro w19 hM
    replace hM : Mem _ _ [pt b9 #[.slice a27 (((X ++ [x])).length) c28] 26, own 3 1 (.slice a27 (((X ++ [x])).length) c28) (((X ++ [x])).length) (((X ++ [x])).map (Value.int .i64)), pt b21 #[.int .i64 ((n18 : Int))] 3] _ := hM
    refine S.doneW ?_
    replace hA : St 59 [(7, _), (9, _)] a := hA.sub ((.cons rfl (.cons rfl .nil)))
    refine EndsW.seq ?_
    refine EndsW.region ?_
    refine S.val hA (R.load sz26 rfl (hM.cell (k := 0) rfl rfl)) rfl ?_; clear hA a; intro a hA
    refine S.val hA (R.lenS Tryd.underlying26 rfl rfl) rfl ?_; clear hA a; intro a hA
    refine S.val hA (R.load sz3 rfl (hM.cell (k := 2) rfl rfl)) rfl ?_; clear hA a; intro a hA
    refine S.val hA (R.geq rfl rfl) rfl ?_; clear hA a; intro a hA
    refine S.doneW ?_
    replace hA : St 59 [(39, _)] a := hA.sub ((.cons rfl .nil))
    refine EndsW.ite hA rfl (fun hc30 => ?_) (fun hc30 => ?_)
    ·
     refine EndsW.leave rfl ?_
     replace hM := hM.front (k := 2) rfl
     replace hM := hM.front (k := 2) rfl
     replace hM := hM.front (k := 2) rfl
     replace hM := hM.firstN 3
     exact ⟨((X ++ [x]), a27, c28), ⟨rfl, by rw [← hs9.1], by have h8 := hc30; simp only [List.length_append, List.length_cons, List.length_nil] at h8 ⊢; omega⟩, hM⟩
    ·
     refine EndsW.skip ?_
     refine EndsW.inBlock ?_
     refine EndsW.endQ ?_
     replace hM := hM.front (k := 2) rfl
     replace hM := hM.front (k := 2) rfl
     replace hM := hM.front (k := 2) rfl
     replace hM := hM.firstN 3
     exact ⟨((X ++ [x]), a27, c28), ⟨by rw [← hs9.1], by have h8 := hc30; simp only [List.length_append, List.length_cons, List.length_nil] at h8 ⊢; omega⟩, hM⟩
   ·
    clear hM hqx htx
    rintro D31 xs ⟨X, oz, ocz⟩ w20 hS9 hs9 hM
    replace hM : Mem _ _ [dfr D31, pt b9 #[.slice oz X.length ocz] 26, own 3 1 (.slice oz X.length ocz) X.length (X.map (Value.int .i64)), pt b21 #[.int .i64 ((n18 : Int))] 3, pt bx24 #[.int .u64 (loW f), .int .u64 (hiW f)] 24, dfr D17, pt b7 #[.slice oa (((eL f 0)).length) oc] 26, own 3 1 (.slice oa (((eL f 0)).length) oc) (((eL f 0)).length) (((eL f 0)).map (Value.int .i64)), pt bx11 #[.int .u64 (loW f), .int .u64 (hiW f)] 24] _ := hM
    obtain ⟨hXx, hXl⟩ := hs9
    dsimp only at hXx hXl
    subst hXx
    have hXe : X = ((eL f 0).take (min (n18 : Int) ((eL f 0).length : Int)).toNat) := by rw [List.take_of_length_le (by rw [← (show X = eL f 0 from hS9)]; omega)]; exact hS9
    rw [hXe] at hM
    replace hM : Mem _ _ [dfr D31, pt b9 #[.slice oz ((((eL f 0).take (min (n18 : Int) ((eL f 0).length : Int)).toNat)).length) ocz] 26, own 3 1 (.slice oz ((((eL f 0).take (min (n18 : Int) ((eL f 0).length : Int)).toNat)).length) ocz) ((((eL f 0).take (min (n18 : Int) ((eL f 0).length : Int)).toNat)).length) ((((eL f 0).take (min (n18 : Int) ((eL f 0).length : Int)).toNat)).map (Value.int .i64)), pt b21 #[.int .i64 ((n18 : Int))] 3, pt bx24 #[.int .u64 (loW f), .int .u64 (hiW f)] 24, dfr D17, pt b7 #[.slice oa (((eL f 0)).length) oc] 26, own 3 1 (.slice oa (((eL f 0)).length) oc) (((eL f 0)).length) (((eL f 0)).map (Value.int .i64)), pt bx11 #[.int .u64 (loW f), .int .u64 (hiW f)] 24] _ := hM
    refine EndsW.inBlock ?_
    refine EndsW.seq ?_
    refine EndsW.drawn (Mem w4 nof [pt b9 #[.slice oz ((((eL f 0).take (min (n18 : Int) ((eL f 0).length : Int)).toNat)).length) ocz] 26, own 3 1 (.slice oz ((((eL f 0).take (min (n18 : Int) ((eL f 0).length : Int)).toNat)).length) ocz) ((((eL f 0).take (min (n18 : Int) ((eL f 0).length : Int)).toNat)).length) ((((eL f 0).take (min (n18 : Int) ((eL f 0).length : Int)).toNat)).map (Value.int .i64)), pt b21 #[.int .i64 ((n18 : Int))] 3, pt bx24 #[.int .u64 (loW f), .int .u64 (hiW f)] 24, pt b7 #[.slice oa (((eL f 0)).length) oc] 26, own 3 1 (.slice oa (((eL f 0)).length) oc) (((eL f 0)).length) (((eL f 0)).map (Value.int .i64)), pt bx11 #[.int .u64 (loW f), .int .u64 (hiW f)] 24]) (.cons (0, true) (.cons (2, true) (.cons (1, false) (.cons (3, false) (.cons (4, true) (.cons (5, true) (.cons (6, true) (.cons (7, false) (.cons (8, true) (.cons (9, true) (.cons (10, true) (.cons (11, true) (.cons (12, true) (.cons (13, true) (.cons (14, true) (.cons (15, true) (.cons (16, true) (.cons (17, false) (.cons (18, true) (.cons (19, true) .nil)))))))))))))))))))) 20 mixed (by kernel_rfl) (by kernel_rfl) (by kernel_rfl) ((hM.drop 5).drop 0).drew ?_
    replace hM := hM.drew
    refine D.val hA rfl (by kernel_rfl) (fun _ hM => R.loadA sz24 rfl (hM.oldRange hbx6) rfl) rfl ?_; clear hA a; intro a hA
    refine D.valF hA rfl (fun _ => R.move rfl) rfl ?_; clear hA a; intro a hA
    refine D.call hA rfl (R.callF Tryd.func11 rfl rfl rfl) rfl (list02F f _ (tab_below htab (Mem.trans0 hbs hM.nilL))) ?_; clear hA a
    rintro e w21 ⟨ra32, rc33, rfl, hli, hlf, hb⟩
    replace hM : Mem _ _ [rd ra32 rc33 ((eL f 0)), dfr D31, pt b9 #[.slice oz ((((eL f 0).take (min (n18 : Int) ((eL f 0).length : Int)).toNat)).length) ocz] 26, own 3 1 (.slice oz ((((eL f 0).take (min (n18 : Int) ((eL f 0).length : Int)).toNat)).length) ocz) ((((eL f 0).take (min (n18 : Int) ((eL f 0).length : Int)).toNat)).length) ((((eL f 0).take (min (n18 : Int) ((eL f 0).length : Int)).toNat)).map (Value.int .i64)), pt b21 #[.int .i64 ((n18 : Int))] 3, pt bx24 #[.int .u64 (loW f), .int .u64 (hiW f)] 24, dfr D17, pt b7 #[.slice oa (((eL f 0)).length) oc] 26, own 3 1 (.slice oa (((eL f 0)).length) oc) (((eL f 0)).length) (((eL f 0)).map (Value.int .i64)), pt bx11 #[.int .u64 (loW f), .int .u64 (hiW f)] 24] _ := hM.callRd hb hli hlf; clear hb
    refine ⟨.slice ra32 (((eL f 0)).length) rc33, rfl, (((hM.drop 6).drop 1).drop 0), fun a hA => ?_⟩
    refine D.call hA rfl (R.callF Tryd.func10 rfl rfl rfl) rfl (rsame02 ra32 ((eL f 0)) rc33 ra3 rc4 _ (hM.rd (k := 0) rfl) (rh5.mem hM)) ?_; clear hA a
    rintro e w22 ⟨rfl, hb⟩
    replace hM := hM.callB hb; clear hb
    refine ⟨.bool true, rfl, (((hM.drop 6).drop 1).drop 0), fun a hA => ?_⟩
    refine D.valF hA rfl (fun _ => R.move rfl) rfl ?_; clear hA a; intro a hA
    refine D.valg (dj := 44) hA rfl (by kernel_rfl) (by kernel_rfl) rfl (fun _ hM => R.load sz26 rfl (hM.cell (k := 4) rfl rfl)) rfl ?_; clear hA a; intro a hA
    refine D.valgF (dj := 44) hA rfl (by kernel_rfl) rfl (fun _ => R.move rfl) rfl ?_; clear hA a; intro a hA
    refine D.callg (dj := 44) hA rfl (by kernel_rfl) rfl (R.callF Tryd.func10 rfl rfl rfl) rfl (rsame02 oa ((eL f 0)) oc ra3 rc4 _ (hM.rsl (k := 8) rfl) (rh5.mem hM)) ?_; clear hA a
    rintro e w23 ⟨rfl, hb⟩
    replace hM := hM.callB hb; clear hb
    refine ⟨.bool true, rfl, (((hM.drop 6).drop 1).drop 0), fun a hA => ?_⟩
    refine D.valF hA rfl (fun _ => R.pickT rfl rfl) rfl ?_; clear hA a; intro a hA
    refine D.valF hA rfl (fun _ => R.move rfl) rfl ?_; clear hA a; intro a hA
    refine D.valg (dj := 49) hA rfl (by kernel_rfl) (by kernel_rfl) rfl (fun _ hM => R.load sz26 rfl (hM.cell (k := 0) rfl rfl)) rfl ?_; clear hA a; intro a hA
    refine D.valgF (dj := 49) hA rfl (by kernel_rfl) rfl (fun _ => R.move rfl) rfl ?_; clear hA a; intro a hA
    refine D.valg (dj := 49) hA rfl (by kernel_rfl) (by kernel_rfl) rfl (fun _ hM => R.load sz3 rfl (hM.cell (k := 2) rfl rfl)) rfl ?_; clear hA a; intro a hA
    refine D.valgF (dj := 49) hA rfl (by kernel_rfl) rfl (fun _ => R.move rfl) rfl ?_; clear hA a; intro a hA
    refine D.valgF (dj := 49) hA rfl (by kernel_rfl) rfl (fun _ => R.lenS Tryd.underlying26 rfl rfl) rfl ?_; clear hA a; intro a hA
    refine D.valgF (dj := 49) hA rfl (by kernel_rfl) rfl (fun _ => R.min rfl rfl) rfl ?_; clear hA a; intro a hA
    have hsl34 := rh5.cutR ((min ((n18 : Int)) ((((eL f 0)).length : Int))).toNat) (by omega)
    refine D.valgF (dj := 49) hA rfl (by kernel_rfl) rfl (fun _ => R.sliceHI (h := (min ((n18 : Int)) ((((eL f 0)).length : Int))).toNat) rh5 Tryd.underlying26 info3 rfl rfl (by omega) (by omega)) rfl ?_; clear hA a; intro a hA
    refine D.callg (dj := 49) hA rfl (by kernel_rfl) rfl (R.callF Tryd.func10 rfl rfl rfl) rfl (rsame02 oz (((eL f 0).take (min (n18 : Int) ((eL f 0).length : Int)).toNat)) ocz ra3 rc4 _ (hM.rsl (k := 3) rfl) (hsl34.mem hM)) ?_; clear hA a
    rintro e w24 ⟨rfl, hb⟩
    replace hM := hM.callB hb; clear hb
    refine ⟨.bool true, rfl, (((hM.drop 6).drop 1).drop 0), fun a hA => ?_⟩
    refine D.valF hA rfl (fun _ => R.pickT rfl rfl) rfl ?_; clear hA a; intro a hA
    refine D.valF hA rfl (fun _ => R.assign rfl) rfl ?_; clear hA a; intro a hA
    refine D.doneW ?_
    replace hA : St 59 [(4, _)] a := hA.sub ((.cons rfl .nil))
    refine EndsW.retQ ?_
    replace hM := hM.front (k := 6) rfl
    replace hM := hM.front (k := 2) rfl
    refine leave2 hA.defers hM (fun w25 hM => ⟨by rw [results_tmp Tryd.results3, hA.getD (t := 4) rfl], ?_⟩)
    replace hM : Mem _ _ [rd ra32 rc33 ((eL f 0)), pt b9 #[.slice oz ((((eL f 0).take (min (n18 : Int) ((eL f 0).length : Int)).toNat)).length) ocz] 26, own 3 1 (.slice oz ((((eL f 0).take (min (n18 : Int) ((eL f 0).length : Int)).toNat)).length) ocz) ((((eL f 0).take (min (n18 : Int) ((eL f 0).length : Int)).toNat)).length) ((((eL f 0).take (min (n18 : Int) ((eL f 0).length : Int)).toNat)).map (Value.int .i64)), pt b21 #[.int .i64 ((n18 : Int))] 3, pt bx24 #[.int .u64 (loW f), .int .u64 (hiW f)] 24, pt b7 #[.slice oa (((eL f 0)).length) oc] 26, own 3 1 (.slice oa (((eL f 0)).length) oc) (((eL f 0)).length) (((eL f 0)).map (Value.int .i64)), pt bx11 #[.int .u64 (loW f), .int .u64 (hiW f)] 24] _ := hM
    exact ⟨rfl, Mem.trans0 hbs hM.nilL⟩
   ·
    clear hM hqx htx
    rintro D35 c9 pre ⟨X, oz, ocz⟩ w26 hS9 hx9 hM
    replace hM : Mem _ _ [dfr D35, pt b9 #[.slice oz X.length ocz] 26, own 3 1 (.slice oz X.length ocz) X.length (X.map (Value.int .i64)), pt b21 #[.int .i64 ((n18 : Int))] 3, pt bx24 #[.int .u64 (loW f), .int .u64 (hiW f)] 24, dfr D17, pt b7 #[.slice oa (((eL f 0)).length) oc] 26, own 3 1 (.slice oa (((eL f 0)).length) oc) (((eL f 0)).length) (((eL f 0)).map (Value.int .i64)), pt bx11 #[.int .u64 (loW f), .int .u64 (hiW f)] 24] _ := hM
    obtain ⟨hce, hXx, hXl⟩ := hx9
    dsimp only at hXx hXl
    subst hce
    subst hXx
    obtain ⟨hS1, hS2⟩ := hS9
    have hXe : X = ((eL f 0).take (min (n18 : Int) ((eL f 0).length : Int)).toNat) := by rw [show (min (n18 : Int) ((eL f 0).length : Int)).toNat = X.length by omega]; exact hS1
    rw [hXe] at hM
    replace hM : Mem _ _ [dfr D35, pt b9 #[.slice oz ((((eL f 0).take (min (n18 : Int) ((eL f 0).length : Int)).toNat)).length) ocz] 26, own 3 1 (.slice oz ((((eL f 0).take (min (n18 : Int) ((eL f 0).length : Int)).toNat)).length) ocz) ((((eL f 0).take (min (n18 : Int) ((eL f 0).length : Int)).toNat)).length) ((((eL f 0).take (min (n18 : Int) ((eL f 0).length : Int)).toNat)).map (Value.int .i64)), pt b21 #[.int .i64 ((n18 : Int))] 3, pt bx24 #[.int .u64 (loW f), .int .u64 (hiW f)] 24, dfr D17, pt b7 #[.slice oa (((eL f 0)).length) oc] 26, own 3 1 (.slice oa (((eL f 0)).length) oc) (((eL f 0)).length) (((eL f 0)).map (Value.int .i64)), pt bx11 #[.int .u64 (loW f), .int .u64 (hiW f)] 24] _ := hM
    refine EndsW.exit rfl ?_
    replace hA : St 59 [(2, _), (5, _), (6, _), (7, _), (9, _)] a := hA.sub ((.cons rfl (.cons rfl (.cons rfl (.cons rfl (.cons rfl .nil))))))
    refine EndsW.seq ?_
    refine EndsW.drawn (Mem w4 nof [pt b9 #[.slice oz ((((eL f 0).take (min (n18 : Int) ((eL f 0).length : Int)).toNat)).length) ocz] 26, own 3 1 (.slice oz ((((eL f 0).take (min (n18 : Int) ((eL f 0).length : Int)).toNat)).length) ocz) ((((eL f 0).take (min (n18 : Int) ((eL f 0).length : Int)).toNat)).length) ((((eL f 0).take (min (n18 : Int) ((eL f 0).length : Int)).toNat)).map (Value.int .i64)), pt b21 #[.int .i64 ((n18 : Int))] 3, pt bx24 #[.int .u64 (loW f), .int .u64 (hiW f)] 24, pt b7 #[.slice oa (((eL f 0)).length) oc] 26, own 3 1 (.slice oa (((eL f 0)).length) oc) (((eL f 0)).length) (((eL f 0)).map (Value.int .i64)), pt bx11 #[.int .u64 (loW f), .int .u64 (hiW f)] 24]) (.cons (0, true) (.cons (2, true) (.cons (1, false) (.cons (3, false) (.cons (4, true) (.cons (5, true) (.cons (6, true) (.cons (7, false) (.cons (8, true) (.cons (9, true) (.cons (10, true) (.cons (11, true) (.cons (12, true) (.cons (13, true) (.cons (14, true) (.cons (15, true) (.cons (16, true) (.cons (17, false) (.cons (18, true) (.cons (19, true) .nil)))))))))))))))))))) 20 mixed (by kernel_rfl) (by kernel_rfl) (by kernel_rfl) ((hM.drop 5).drop 0).drew ?_
    replace hM := hM.drew
    refine D.val hA rfl (by kernel_rfl) (fun _ hM => R.loadA sz24 rfl (hM.oldRange hbx6) rfl) rfl ?_; clear hA a; intro a hA
    refine D.valF hA rfl (fun _ => R.move rfl) rfl ?_; clear hA a; intro a hA
    refine D.call hA rfl (R.callF Tryd.func11 rfl rfl rfl) rfl (list02F f _ (tab_below htab (Mem.trans0 hbs hM.nilL))) ?_; clear hA a
    rintro e w27 ⟨ra36, rc37, rfl, hli, hlf, hb⟩
    replace hM : Mem _ _ [rd ra36 rc37 ((eL f 0)), dfr D35, pt b9 #[.slice oz ((((eL f 0).take (min (n18 : Int) ((eL f 0).length : Int)).toNat)).length) ocz] 26, own 3 1 (.slice oz ((((eL f 0).take (min (n18 : Int) ((eL f 0).length : Int)).toNat)).length) ocz) ((((eL f 0).take (min (n18 : Int) ((eL f 0).length : Int)).toNat)).length) ((((eL f 0).take (min (n18 : Int) ((eL f 0).length : Int)).toNat)).map (Value.int .i64)), pt b21 #[.int .i64 ((n18 : Int))] 3, pt bx24 #[.int .u64 (loW f), .int .u64 (hiW f)] 24, dfr D17, pt b7 #[.slice oa (((eL f 0)).length) oc] 26, own 3 1 (.slice oa (((eL f 0)).length) oc) (((eL f 0)).length) (((eL f 0)).map (Value.int .i64)), pt bx11 #[.int .u64 (loW f), .int .u64 (hiW f)] 24] _ := hM.callRd hb hli hlf; clear hb
    refine ⟨.slice ra36 (((eL f 0)).length) rc37, rfl, (((hM.drop 6).drop 1).drop 0), fun a hA => ?_⟩
    refine D.call hA rfl (R.callF Tryd.func10 rfl rfl rfl) rfl (rsame02 ra36 ((eL f 0)) rc37 ra3 rc4 _ (hM.rd (k := 0) rfl) (rh5.mem hM)) ?_; clear hA a
    rintro e w28 ⟨rfl, hb⟩
    replace hM := hM.callB hb; clear hb
    refine ⟨.bool true, rfl, (((hM.drop 6).drop 1).drop 0), fun a hA => ?_⟩
    refine D.valF hA rfl (fun _ => R.move rfl) rfl ?_; clear hA a; intro a hA
    refine D.valg (dj := 44) hA rfl (by kernel_rfl) (by kernel_rfl) rfl (fun _ hM => R.load sz26 rfl (hM.cell (k := 4) rfl rfl)) rfl ?_; clear hA a; intro a hA
    refine D.valgF (dj := 44) hA rfl (by kernel_rfl) rfl (fun _ => R.move rfl) rfl ?_; clear hA a; intro a hA
    refine D.callg (dj := 44) hA rfl (by kernel_rfl) rfl (R.callF Tryd.func10 rfl rfl rfl) rfl (rsame02 oa ((eL f 0)) oc ra3 rc4 _ (hM.rsl (k := 8) rfl) (rh5.mem hM)) ?_; clear hA a
    rintro e w29 ⟨rfl, hb⟩
    replace hM := hM.callB hb; clear hb
    refine ⟨.bool true, rfl, (((hM.drop 6).drop 1).drop 0), fun a hA => ?_⟩
    refine D.valF hA rfl (fun _ => R.pickT rfl rfl) rfl ?_; clear hA a; intro a hA
    refine D.valF hA rfl (fun _ => R.move rfl) rfl ?_; clear hA a; intro a hA
    refine D.valg (dj := 49) hA rfl (by kernel_rfl) (by kernel_rfl) rfl (fun _ hM => R.load sz26 rfl (hM.cell (k := 0) rfl rfl)) rfl ?_; clear hA a; intro a hA
    refine D.valgF (dj := 49) hA rfl (by kernel_rfl) rfl (fun _ => R.move rfl) rfl ?_; clear hA a; intro a hA
    refine D.valg (dj := 49) hA rfl (by kernel_rfl) (by kernel_rfl) rfl (fun _ hM => R.load sz3 rfl (hM.cell (k := 2) rfl rfl)) rfl ?_; clear hA a; intro a hA
    refine D.valgF (dj := 49) hA rfl (by kernel_rfl) rfl (fun _ => R.move rfl) rfl ?_; clear hA a; intro a hA
    refine D.valgF (dj := 49) hA rfl (by kernel_rfl) rfl (fun _ => R.lenS Tryd.underlying26 rfl rfl) rfl ?_; clear hA a; intro a hA
    refine D.valgF (dj := 49) hA rfl (by kernel_rfl) rfl (fun _ => R.min rfl rfl) rfl ?_; clear hA a; intro a hA
    have hsl38 := rh5.cutR ((min ((n18 : Int)) ((((eL f 0)).length : Int))).toNat) (by omega)
    refine D.valgF (dj := 49) hA rfl (by kernel_rfl) rfl (fun _ => R.sliceHI (h := (min ((n18 : Int)) ((((eL f 0)).length : Int))).toNat) rh5 Tryd.underlying26 info3 rfl rfl (by omega) (by omega)) rfl ?_; clear hA a; intro a hA
    refine D.callg (dj := 49) hA rfl (by kernel_rfl) rfl (R.callF Tryd.func10 rfl rfl rfl) rfl (rsame02 oz (((eL f 0).take (min (n18 : Int) ((eL f 0).length : Int)).toNat)) ocz ra3 rc4 _ (hM.rsl (k := 3) rfl) (hsl38.mem hM)) ?_; clear hA a
    rintro e w30 ⟨rfl, hb⟩
    replace hM := hM.callB hb; clear hb
    refine ⟨.bool true, rfl, (((hM.drop 6).drop 1).drop 0), fun a hA => ?_⟩
    refine D.valF hA rfl (fun _ => R.pickT rfl rfl) rfl ?_; clear hA a; intro a hA
    refine D.valF hA rfl (fun _ => R.assign rfl) rfl ?_; clear hA a; intro a hA
    refine D.doneW ?_
    replace hA : St 59 [(4, _)] a := hA.sub ((.cons rfl .nil))
    refine EndsW.retQ ?_
    replace hM := hM.front (k := 6) rfl
    replace hM := hM.front (k := 2) rfl
    refine leave2 hA.defers hM (fun w31 hM => ⟨by rw [results_tmp Tryd.results3, hA.getD (t := 4) rfl], ?_⟩)
    replace hM : Mem _ _ [rd ra36 rc37 ((eL f 0)), pt b9 #[.slice oz ((((eL f 0).take (min (n18 : Int) ((eL f 0).length : Int)).toNat)).length) ocz] 26, own 3 1 (.slice oz ((((eL f 0).take (min (n18 : Int) ((eL f 0).length : Int)).toNat)).length) ocz) ((((eL f 0).take (min (n18 : Int) ((eL f 0).length : Int)).toNat)).length) ((((eL f 0).take (min (n18 : Int) ((eL f 0).length : Int)).toNat)).map (Value.int .i64)), pt b21 #[.int .i64 ((n18 : Int))] 3, pt bx24 #[.int .u64 (loW f), .int .u64 (hiW f)] 24, pt b7 #[.slice oa (((eL f 0)).length) oc] 26, own 3 1 (.slice oa (((eL f 0)).length) oc) (((eL f 0)).length) (((eL f 0)).map (Value.int .i64)), pt bx11 #[.int .u64 (loW f), .int .u64 (hiW f)] 24] _ := hM
    exact ⟨rfl, Mem.trans0 hbs hM.nilL⟩
  ·
   replace hM := hM.ownNil 3 1
   have hZ0 : ((eL f 0).take (min (n18 : Int) ((eL f 0).length : Int)).toNat) = [] := by rw [show (min (n18 : Int) ((eL f 0).length : Int)).toNat = 0 by omega]; rfl
   replace hM : Mem w4 nof [own 3 1 (.slice none ((((eL f 0).take (min (n18 : Int) ((eL f 0).length : Int)).toNat)).length) 0) ((((eL f 0).take (min (n18 : Int) ((eL f 0).length : Int)).toNat)).length) ((((eL f 0).take (min (n18 : Int) ((eL f 0).length : Int)).toNat)).map (Value.int .i64)), pt b21 #[.int .i64 ((n18 : Int))] 3, dfr D17, pt b7 #[.slice oa (((eL f 0)).length) oc] 26, own 3 1 (.slice oa (((eL f 0)).length) oc) (((eL f 0)).length) (((eL f 0)).map (Value.int .i64)), pt bx11 #[.int .u64 (loW f), .int .u64 (hiW f)] 24, pt b9 #[.slice none ((((eL f 0).take (min (n18 : Int) ((eL f 0).length : Int)).toNat)).length) 0] 26] w14 := by rw [hZ0]; exact hM
   refine EndsW.skip ?_
   refine EndsW.seq ?_
   refine EndsW.drawn (Mem w4 nof [own 3 1 (.slice none ((((eL f 0).take (min (n18 : Int) ((eL f 0).length : Int)).toNat)).length) 0) ((((eL f 0).take (min (n18 : Int) ((eL f 0).length : Int)).toNat)).length) ((((eL f 0).take (min (n18 : Int) ((eL f 0).length : Int)).toNat)).map (Value.int .i64)), pt b21 #[.int .i64 ((n18 : Int))] 3, pt b7 #[.slice oa (((eL f 0)).length) oc] 26, own 3 1 (.slice oa (((eL f 0)).length) oc) (((eL f 0)).length) (((eL f 0)).map (Value.int .i64)), pt bx11 #[.int .u64 (loW f), .int .u64 (hiW f)] 24, pt b9 #[.slice none ((((eL f 0).take (min (n18 : Int) ((eL f 0).length : Int)).toNat)).length) 0] 26]) (.cons (0, true) (.cons (2, true) (.cons (1, false) (.cons (3, false) (.cons (4, true) (.cons (5, true) (.cons (6, true) (.cons (7, false) (.cons (8, true) (.cons (9, true) (.cons (10, true) (.cons (11, true) (.cons (12, true) (.cons (13, true) (.cons (14, true) (.cons (15, true) (.cons (16, true) (.cons (17, false) (.cons (18, true) (.cons (19, true) .nil)))))))))))))))))))) 20 mixed (by kernel_rfl) (by kernel_rfl) (by kernel_rfl) (hM.drop 2).drew ?_
   replace hM := hM.drew
   refine D.val hA rfl (by kernel_rfl) (fun _ hM => R.loadA sz24 rfl (hM.oldRange hbx6) rfl) rfl ?_; clear hA a; intro a hA
   refine D.valF hA rfl (fun _ => R.move rfl) rfl ?_; clear hA a; intro a hA
   refine D.call hA rfl (R.callF Tryd.func11 rfl rfl rfl) rfl (list02F f _ (tab_below htab (Mem.trans0 hbs hM.nilL))) ?_; clear hA a
   rintro e w32 ⟨ra39, rc40, rfl, hli, hlf, hb⟩
   replace hM : Mem _ _ [rd ra39 rc40 ((eL f 0)), own 3 1 (.slice none ((((eL f 0).take (min (n18 : Int) ((eL f 0).length : Int)).toNat)).length) 0) ((((eL f 0).take (min (n18 : Int) ((eL f 0).length : Int)).toNat)).length) ((((eL f 0).take (min (n18 : Int) ((eL f 0).length : Int)).toNat)).map (Value.int .i64)), pt b21 #[.int .i64 ((n18 : Int))] 3, dfr D17, pt b7 #[.slice oa (((eL f 0)).length) oc] 26, own 3 1 (.slice oa (((eL f 0)).length) oc) (((eL f 0)).length) (((eL f 0)).map (Value.int .i64)), pt bx11 #[.int .u64 (loW f), .int .u64 (hiW f)] 24, pt b9 #[.slice none ((((eL f 0).take (min (n18 : Int) ((eL f 0).length : Int)).toNat)).length) 0] 26] _ := hM.callRd hb hli hlf; clear hb
   refine ⟨.slice ra39 (((eL f 0)).length) rc40, rfl, ((hM.drop 3).drop 0), fun a hA => ?_⟩
   refine D.call hA rfl (R.callF Tryd.func10 rfl rfl rfl) rfl (rsame02 ra39 ((eL f 0)) rc40 ra3 rc4 _ (hM.rd (k := 0) rfl) (rh5.mem hM)) ?_; clear hA a
   rintro e w33 ⟨rfl, hb⟩
   replace hM := hM.callB hb; clear hb
   refine ⟨.bool true, rfl, ((hM.drop 3).drop 0), fun a hA => ?_⟩
   refine D.valF hA rfl (fun _ => R.move rfl) rfl ?_; clear hA a; intro a hA
   refine D.valg (dj := 44) hA rfl (by kernel_rfl) (by kernel_rfl) rfl (fun _ hM => R.load sz26 rfl (hM.cell (k := 2) rfl rfl)) rfl ?_; clear hA a; intro a hA
   refine D.valgF (dj := 44) hA rfl (by kernel_rfl) rfl (fun _ => R.move rfl) rfl ?_; clear hA a; intro a hA
   refine D.callg (dj := 44) hA rfl (by kernel_rfl) rfl (R.callF Tryd.func10 rfl rfl rfl) rfl (rsame02 oa ((eL f 0)) oc ra3 rc4 _ (hM.rsl (k := 5) rfl) (rh5.mem hM)) ?_; clear hA a
   rintro e w34 ⟨rfl, hb⟩
   replace hM := hM.callB hb; clear hb
   refine ⟨.bool true, rfl, ((hM.drop 3).drop 0), fun a hA => ?_⟩
   refine D.valF hA rfl (fun _ => R.pickT rfl rfl) rfl ?_; clear hA a; intro a hA
   refine D.valF hA rfl (fun _ => R.move rfl) rfl ?_; clear hA a; intro a hA
   refine D.valg (dj := 49) hA rfl (by kernel_rfl) (by kernel_rfl) rfl (fun _ hM => R.load sz26 rfl (hM.cell (k := 5) rfl rfl)) rfl ?_; clear hA a; intro a hA
   refine D.valgF (dj := 49) hA rfl (by kernel_rfl) rfl (fun _ => R.move rfl) rfl ?_; clear hA a; intro a hA
   refine D.valg (dj := 49) hA rfl (by kernel_rfl) (by kernel_rfl) rfl (fun _ hM => R.load sz3 rfl (hM.cell (k := 1) rfl rfl)) rfl ?_; clear hA a; intro a hA
   refine D.valgF (dj := 49) hA rfl (by kernel_rfl) rfl (fun _ => R.move rfl) rfl ?_; clear hA a; intro a hA
   refine D.valgF (dj := 49) hA rfl (by kernel_rfl) rfl (fun _ => R.lenS Tryd.underlying26 rfl rfl) rfl ?_; clear hA a; intro a hA
   refine D.valgF (dj := 49) hA rfl (by kernel_rfl) rfl (fun _ => R.min rfl rfl) rfl ?_; clear hA a; intro a hA
   have hsl41 := rh5.cutR ((min ((n18 : Int)) ((((eL f 0)).length : Int))).toNat) (by omega)
   refine D.valgF (dj := 49) hA rfl (by kernel_rfl) rfl (fun _ => R.sliceHI (h := (min ((n18 : Int)) ((((eL f 0)).length : Int))).toNat) rh5 Tryd.underlying26 info3 rfl rfl (by omega) (by omega)) rfl ?_; clear hA a; intro a hA
   refine D.callg (dj := 49) hA rfl (by kernel_rfl) rfl (R.callF Tryd.func10 rfl rfl rfl) rfl (rsame02 none (((eL f 0).take (min (n18 : Int) ((eL f 0).length : Int)).toNat)) 0 ra3 rc4 _ (hM.rsl (k := 1) rfl) (hsl41.mem hM)) ?_; clear hA a
   rintro e w35 ⟨rfl, hb⟩
   replace hM := hM.callB hb; clear hb
   refine ⟨.bool true, rfl, ((hM.drop 3).drop 0), fun a hA => ?_⟩
   refine D.valF hA rfl (fun _ => R.pickT rfl rfl) rfl ?_; clear hA a; intro a hA
   refine D.valF hA rfl (fun _ => R.assign rfl) rfl ?_; clear hA a; intro a hA
   refine D.doneW ?_
   replace hA : St 59 [(4, _)] a := hA.sub ((.cons rfl .nil))
   refine EndsW.retQ ?_
   replace hM := hM.front (k := 3) rfl
   refine leave1 hA.defers hM (fun w36 hM => ⟨by rw [results_tmp Tryd.results3, hA.getD (t := 4) rfl], ?_⟩)
   replace hM : Mem _ _ [rd ra39 rc40 ((eL f 0)), own 3 1 (.slice none ((((eL f 0).take (min (n18 : Int) ((eL f 0).length : Int)).toNat)).length) 0) ((((eL f 0).take (min (n18 : Int) ((eL f 0).length : Int)).toNat)).length) ((((eL f 0).take (min (n18 : Int) ((eL f 0).length : Int)).toNat)).map (Value.int .i64)), pt b21 #[.int .i64 ((n18 : Int))] 3, pt b7 #[.slice oa (((eL f 0)).length) oc] 26, own 3 1 (.slice oa (((eL f 0)).length) oc) (((eL f 0)).length) (((eL f 0)).map (Value.int .i64)), pt bx11 #[.int .u64 (loW f), .int .u64 (hiW f)] 24, pt b9 #[.slice none ((((eL f 0).take (min (n18 : Int) ((eL f 0).length : Int)).toNat)).length) 0] 26] _ := hM
   exact ⟨rfl, Mem.trans0 hbs hM.nilL⟩
 ·
  clear hM hqx htx
  rintro D42 c9 pre ⟨X, oa, oc⟩ w37 hS9 hx9 hM
  exact False.elim hx9
theorem setGoes_any (l : List Int) (n : Int) (h1 : l.length = 2) (h2 : ∀ x ∈ l, (Lit.int .u64 x).wf = true) (_h3 : (Lit.int .i64 n).wf = true) (w : World) (htab : Lib.TabIs Tryd.prog w "math/bits.deBruijn64tab" .u8 debT) : Calls Tryd.prog 3 #[.agg (l.map (Value.int .u64)).toArray, .int .i64 n] w fun e w' => e = .returned (.bool true) ∧ Below w.heap.size w w' := by
  obtain ⟨f, hf⟩ := set_of h1 h2
  rw [hf]
  exact setGoes_w f n w htab
end Go.Proofs.YtphpbdnmdhlnoaaDoor
namespace Go.Proofs.YtphpbdnmdhlnoaaDoor
open Go.RowKit Go.WideShapes Go.ChangeShapes
section
variable {H : Type} {enc : TypeId × Value → H} {P : Program} {w : World} {base : Nat} {spare : Nat → Bool} {held : Bool}
theorem open_arri {r : Reach} {b0 n : Nat} {t e : TypeId} {k : IntKind} {v : Value} {d : DataW H} {p : List MemPlace} (ht : P.underlying t = some (.array n e)) (he : P.underlying e = some (.int k)) (hce : P.cellsOf e = 1)
    (hct : P.cellsOf t = n) (hv : Value.okWide P w r b0 t v) (h : DataW.Trod enc P w base spare held t v d p) :
    ∃ l : List Int, v = .agg (l.map (Value.int k)).toArray ∧ l.length = n ∧ ∀ x ∈ l, (Lit.int k x).wf = true := by
  simp only [Value.okWide, ht] at hv
  obtain ⟨cs, rfl, hsz, -⟩ := hv
  rw [hct] at hsz
  obtain ⟨fuel, hf⟩ := h
  obtain ⟨xs, m, -, -, -, hlen, hall⟩ := DataW.trod_array ht hf
  have each : ∀ i, i < n → ∃ x : Int, cs[i]? = some (.int k x) ∧ (Lit.int k x).wf = true := by
    intro i hi
    have h1 := hall i hi
    rw [hce, Nat.mul_one, List.getElem?_eq_getElem (by omega)] at h1
    obtain ⟨x, hx, -, hw⟩ := DataW.trod_int he h1
    refine ⟨x, ?_, hw⟩
    have h2 : (List.take 1 (List.drop i cs.toList))[0]? = some (.int k x) := by
      rw [show (Value.agg cs).cells.toList = cs.toList from rfl] at hx
      rw [hx]; rfl
    rw [List.getElem?_take] at h2
    simpa using h2
  refine ⟨cs.toList.map intOf, ?_, by simp [hsz], ?_⟩
  · congr 1
    apply Array.ext_getElem?
    intro i
    by_cases hi : i < n
    · obtain ⟨x, hx, -⟩ := each i hi
      simp [hx, intOf]
    · rw [Array.getElem?_eq_none (by omega), Array.getElem?_eq_none (by simp; omega)]
  · intro x hx
    obtain ⟨y, hy, rfl⟩ := List.mem_map.1 hx
    obtain ⟨i, hi, rfl⟩ := List.getElem_of_mem hy
    obtain ⟨x, hx, hw⟩ := each i (by simpa [hsz] using hi)
    have h3 : cs.toList[i] = .int k x := by
      have : cs.toList[i]? = some (.int k x) := by simpa using hx
      rw [List.getElem?_eq_getElem hi] at this
      simpa using this
    rw [h3]; exact hw
end
end Go.Proofs.YtphpbdnmdhlnoaaDoor
