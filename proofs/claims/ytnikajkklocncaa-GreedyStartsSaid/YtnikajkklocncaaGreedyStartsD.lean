/-
  GreedyStarts, part 4 of 6: what the code computes, and plain laws; no condition beside those that each theorem tells.
-/
import Derived.Test.YtnikajkklocncaaGreedyStartsC
namespace Go.Proofs.Ytnikajkklocncaa
open Go.RowKit
def MergeAtF (A : Int → Prop) (lt : Int → Int → Bool) (cf : FuncId) (cs : Array Value) (f : Nat) : Prop :=
  ∀ (ax : Option Addr) (X : List Int) (cx : Nat) (w : World), X.length ≤ f → X.length ≤ 1000 → (∀ x ∈ X, A x) → IntSl w (.slice ax X.length cx) X → AheadAt A lt cf cs w →
    Calls Try.prog 78 #[.slice ax X.length cx, .func (.func cf) #[] cs] w fun e w' => ∃ a c, e = .returned (.slice a (msort lt f X).length c) ∧ IntSl w' (.slice a (msort lt f X).length c) (msort lt f X) ∧ (a = ax ∨ frs w.heap.size a) ∧ Below w.heap.size w w'
theorem plain_nF (n : Nat) (hn : n ≤ 1000) (w : World) : Calls Try.prog 57 #[.int .i64 (n : Int)] w fun e w' => ∃ a c, e = .returned (.slice a (pl n).length c) ∧ IntSl w' (.slice a (pl n).length c) (pl n) ∧ frs w.heap.size a ∧ Below w.heap.size w w' :=
  (plain_own n (by omega) w).mono fun e w' ⟨g, c, he, hM⟩ => ⟨_, c, he, (rs_of hM).1, hM.ownFresh (k := 0) rfl, (rs_of hM).2⟩
set_option maxRecDepth 100000 in
set_option maxHeartbeats 400000 in
theorem merge_stepF {lt : Int → Int → Bool} {A : Int → Prop} {cf : FuncId} {cs : Array Value} {fn : Func} (hcf : Try.prog.funcs[cf]? = some fn) (hcn : (fn.name == "runtime.NumGoroutine") = false) (hcb : fn.body.isNone = false) (f : Nat) (ih : MergeAt A lt cf cs f) (ax : Option Addr) (X : List Int) (cx : Nat) (hXf : X.length ≤ f + 1) (hXm : X.length ≤ 1000) (hAX : ∀ x ∈ X, A x) (w : World) (hx : IntSl w (.slice ax X.length cx) X) (hah : AheadAt A lt cf cs w) :
  Calls Try.prog 78 #[.slice ax X.length cx, .func (.func cf) #[] cs] w fun e w' => ∃ a c, e = .returned (.slice a (msort lt (f + 1) X).length c) ∧ IntSl w' (.slice a (msort lt (f + 1) X).length c) (msort lt (f + 1) X) ∧ (a = ax ∨ frs w.heap.size a) ∧ Below w.heap.size w w' := by
 have hbs := Below.refl (B := w.heap.size) w
 have hM := Mem.start w
 refine Calls.of_ends (vs := [.slice ax X.length cx, .func (.func cf) #[] cs]) Try.func78 rfl Try.ntmps78 rfl ?_
 intro a hA
 replace hA : St 66 [(0, _), (1, _)] a := hA
 refine Ends.seq (Ends.region ?_)
 refine S.val hA (R.assign rfl) rfl ?_; clear hA a; intro a hA
 refine S.done ?_
 refine Ends.seq (Ends.seq (Ends.region ?_))
 refine S.val hA (R.move rfl) rfl ?_; clear hA a; intro a hA
 refine S.val hA (R.lenS Try.underlying22 rfl rfl) rfl ?_; clear hA a; intro a hA
 refine S.val hA (R.lss rfl rfl) rfl ?_; clear hA a; intro a hA
 refine S.done ?_
 refine Ends.ite hA rfl (fun hc1 => ?_) (fun hc1 => ?_)
 ·
  refine Ends.seq (Ends.region ?_)
  refine S.val hA (R.move rfl) rfl ?_; clear hA a; intro a hA
  refine S.val hA (R.assign rfl) rfl ?_; clear hA a; intro a hA
  refine S.done ?_
  replace hA : St 66 [(0, _), (1, _), (4, _)] a := hA.sub ((.cons rfl (.cons rfl (.cons rfl .nil))))
  refine Ends.ret1 Try.func78 Try.results78 hA rfl ?_
  rw [show msort lt (f + 1) X = X by rw [msort, if_pos (by omega)]]
  exact ⟨_, _, rfl, hx, .inl rfl, Mem.trans0 hbs hM.nilL⟩
 ·
  refine Ends.skip (Ends.seq (Ends.region ?_))
  refine S.val hA (R.move rfl) rfl ?_; clear hA a; intro a hA
  refine S.val hA (R.lenS Try.underlying22 rfl rfl) rfl ?_; clear hA a; intro a hA
  refine S.val hA (R.quoI rfl rfl rfl (by omega)) rfl ?_; clear hA a; intro a hA
  refine S.val hA (R.assign rfl) rfl ?_; clear hA a; intro a hA
  refine S.done ?_
  replace hA : St 66 [(0, _), (1, _), (5, _)] a := hA.sub ((.cons rfl (.cons rfl (.cons rfl .nil))))
  refine Ends.seq ?_
  refine Ends.drawn (fun _ => True) (.cons (0, true) (.cons (1, true) (.cons (2, true) (.cons (3, true) (.cons (5, true) (.cons (6, true) (.cons (7, true) (.cons (8, true) (.cons (4, false) (.cons (9, false) (.cons (10, true) (.cons (11, true) .nil)))))))))))) 12 mixed (by kernel_rfl) (by kernel_rfl) (by kernel_rfl) trivial ?_
  replace hM := hM.drew
  refine D.valF hA rfl (fun _ => R.move rfl) rfl ?_; clear hA a; intro a hA
  refine D.valF hA rfl (fun _ => R.move rfl) rfl ?_; clear hA a; intro a hA
  have hsl2 := hx.cutR ((X.length / 2)) (by omega)
  refine D.valF hA rfl (fun _ => R.sliceHI (h := (X.length / 2)) hx Try.underlying22 info3 rfl rfl (by omega) (by omega)) rfl ?_; clear hA a; intro a hA
  refine D.valF hA rfl (fun _ => R.move rfl) rfl ?_; clear hA a; intro a hA
  refine D.valF hA rfl (fun _ => R.move rfl) rfl ?_; clear hA a; intro a hA
  refine D.valF hA rfl (fun _ => R.move rfl) rfl ?_; clear hA a; intro a hA
  obtain ⟨as4, cs5, hsl3, hr6⟩ := hx.fromR ((X.length / 2)) (by omega) (by omega)
  refine D.valF hA rfl (fun _ => (hr6 _ _ _ _ _ _ _ _ _ _ _ Try.underlying22 info3 rfl rfl rfl (by omega))) rfl ?_; clear hA a; intro a hA
  refine D.valF hA rfl (fun _ => R.move rfl) rfl ?_; clear hA a; intro a hA
  refine D.call hA rfl (R.callF Try.func78 rfl rfl rfl) rfl (ih ax ((X.take ((X.length / 2)))) cx _ (by rw [List.length_take]; omega) (by rw [List.length_take]; omega) (fun x hx => hAX x (List.mem_of_mem_take hx)) (hsl2.mem hM) (hah.mem hM)) ?_; clear hA a
  rintro e w1 ⟨ra7, rc8, rfl, rh9, hb⟩
  replace hM := hM.callB hb; clear hb
  have hbs := hbs.trans (hM.below.mono hbs.size)
  have hx := hx.mem hM
  have hah := hah.mem hM
  have hsl2 := hsl2.mem hM
  have hsl3 := hsl3.mem hM
  replace hM := Mem.start w1
  refine ⟨.slice ra7 (((msort lt f ((X.take ((X.length / 2)))))).length) rc8, rfl, trivial, fun a hA => ?_⟩
  refine D.call hA rfl (R.callF Try.func78 rfl rfl rfl) rfl (ih as4 ((X.drop ((X.length / 2)))) cs5 _ (by rw [List.length_drop]; omega) (by rw [List.length_drop]; omega) (fun x hx => hAX x (List.mem_of_mem_drop hx)) (hsl3.mem hM) (hah.mem hM)) ?_; clear hA a
  rintro e w2 ⟨ra10, rc11, rfl, rh12, hb⟩
  replace hM := hM.callB hb; clear hb
  have hbs := hbs.trans (hM.below.mono hbs.size)
  have hx := hx.mem hM
  have hah := hah.mem hM
  have hsl2 := hsl2.mem hM
  have hsl3 := hsl3.mem hM
  have rh9 := rh9.mem hM
  replace hM := Mem.start w2
  refine ⟨.slice ra10 (((msort lt f ((X.drop ((X.length / 2)))))).length) rc11, rfl, trivial, fun a hA => ?_⟩
  refine D.valF hA rfl (fun _ => R.assign rfl) rfl ?_; clear hA a; intro a hA
  refine D.valF hA rfl (fun _ => R.assign rfl) rfl ?_; clear hA a; intro a hA
  refine D.done ?_
  replace hA : St 66 [(0, _), (1, _), (6, _), (7, _)] a := hA.sub ((.cons rfl (.cons rfl (.cons rfl (.cons rfl .nil)))))
  refine Ends.seq (Ends.region ?_)
  refine S.val hA (R.move rfl) rfl ?_; clear hA a; intro a hA
  refine S.val hA (R.lenS Try.underlying22 rfl rfl) rfl ?_; clear hA a; intro a hA
  refine S.makeC hA hM Try.underlying22 info3 rfl rfl rfl (by omega) (by show (8 : Int) * _ ≤ _; omega) (by omega) rfl ?_; clear hA hM a; intro b13 w3 hb14 hM a hA
  replace hM : Mem _ _ [pt b13 ((madeCells #[.int .i64 0] (X.length * 1))) 3] _ := hM
  refine S.val hA (R.assign rfl) rfl ?_; clear hA a; intro a hA
  refine S.done ?_
  replace hA : St 66 [(1, _), (6, _), (7, _), (8, _)] a := hA.sub ((.cons rfl (.cons rfl (.cons rfl (.cons rfl .nil)))))
  refine Ends.seq (Ends.block ?_)
  replace hM := hM.ownPt (cap := X.length) (n := 0) (sz := 1) (xs := []) (by simp [madeCells]) (by unfold maxLen; omega) (Nat.zero_le _) rfl
  replace hM : Mem _ _ [own 3 1 (.slice ((some ⟨b13, 0, none⟩)) ((([] : List Int)).length) X.length) ((([] : List Int)).length) ((([] : List Int)).map (Value.int .i64))] _ := hM
  refine Ends.loop (σ := Option Addr × List Int × Nat × Option Addr × List Int × Nat × Option Addr × List Int × Nat) (fun (la, U, lc, ra, V, rc, oa, Z, oc) (a : Act) (wv : World) => St 66 [(1, .func (.func cf) #[] cs), (6, .slice la U.length lc), (7, .slice ra V.length rc), (8, .slice oa Z.length oc)] a ∧ Mem w2 nof [own 3 1 (.slice oa Z.length oc) Z.length (Z.map (Value.int .i64))] wv ∧ (IntSl w2 (.slice la U.length lc) U) ∧ (IntSl w2 (.slice ra V.length rc) V) ∧ (Z ++ mrg lt U V = mrg lt ((msort lt f ((X.take ((X.length / 2)))))) ((msort lt f ((X.drop ((X.length / 2))))))) ∧ (U.length + V.length + Z.length = X.length) ∧ (∀ x ∈ U, A x) ∧ (∀ x ∈ V, A x)) (fun (la, U, lc, ra, V, rc, oa, Z, oc) => U.length + V.length) ((ra7, (msort lt f ((X.take ((X.length / 2))))), rc8, ra10, (msort lt f ((X.drop ((X.length / 2))))), rc11, (some ⟨b13, 0, none⟩), [], X.length)) ⟨hA.sub ((.cons rfl (.cons rfl (.cons rfl (.cons rfl .nil))))), hM, rh9, rh12, rfl, (by rw [msort_len, msort_len, List.length_take, List.length_drop]; simp only [List.length_nil]; omega), (fun x hx => hAX x (List.mem_of_mem_take ((msort_perm f _).mem_iff.1 hx))), (fun x hx => hAX x (List.mem_of_mem_drop ((msort_perm f _).mem_iff.1 hx)))⟩ ?_
  clear hA hM a
  rintro ⟨la, U, lc, ra, V, rc, oa, Z, oc⟩ a w4 ⟨hA, hM, hU, hV, hord, hlen, hAL, hAR⟩ hNext
  refine Ends.seq (Ends.seq ?_)
  refine Ends.cut (fun (a : Act) (wv : World) => St 66 [(1, .func (.func cf) #[] cs), (6, .slice la U.length lc), (7, .slice ra V.length rc), (8, .slice oa Z.length oc), (36, .bool (decide ((0 < ((U.length : Int)) ∧ 0 < ((V.length : Int))))))] a ∧ Mem w2 nof [own 3 1 (.slice oa Z.length oc) Z.length (Z.map (Value.int .i64))] wv) ?_ (fun k2 hJ => ?_)
  ·
   clear hA hM a; rintro a w5 ⟨hA, hM⟩
   refine Ends.ite hA rfl (fun hc15 => ?_) (fun hc15 => ?_)
   ·
    refine Ends.skip (Ends.block (Ends.seq ?_))
    refine Ends.drawn (Mem w2 nof [own 3 1 (.slice oa Z.length oc) Z.length (Z.map (Value.int .i64))]) (.cons (0, true) (.cons (1, true) (.cons (2, true) (.cons (3, true) (.cons (4, true) (.cons (5, true) (.cons (6, true) (.cons (7, false) .nil)))))))) 8 mixed (by kernel_rfl) (by kernel_rfl) (by kernel_rfl) hM.drew ?_
    replace hM := hM.drew
    refine D.valF hA rfl (fun _ => R.move rfl) rfl ?_; clear hA a; intro a hA
    refine D.valF hA rfl (fun _ => R.move rfl) rfl ?_; clear hA a; intro a hA
    refine D.valF hA rfl (fun _ => R.idxI hV (j := 0) sl22 rfl rfl (by omega) (rfl)) rfl ?_; clear hA a; intro a hA
    refine D.val hA rfl (by kernel_rfl) (fun _ hM => R.loadI (hV.mem hM) sz3 rfl (by omega)) rfl ?_; clear hA a; intro a hA
    refine D.valF hA rfl (fun _ => R.move rfl) rfl ?_; clear hA a; intro a hA
    refine D.valF hA rfl (fun _ => R.idxI hU (j := 0) sl22 rfl rfl (by omega) (rfl)) rfl ?_; clear hA a; intro a hA
    refine D.val hA rfl (by kernel_rfl) (fun _ hM => R.loadI (hU.mem hM) sz3 rfl (by omega)) rfl ?_; clear hA a; intro a hA
    refine D.call hA rfl (R.callV hcf hcn hcb rfl rfl) rfl (hah _ hM.nilL.below (V.getD 0 0) (U.getD 0 0) (hAR _ (getD_mem0 (by omega))) (hAL _ (getD_mem0 (by omega)))) ?_; clear hA a
    rintro e w6 ⟨rfl, hb⟩
    replace hM := hM.callB hb; clear hb
    refine ⟨.bool (lt (V.getD 0 0) (U.getD 0 0)), rfl, hM, fun a hA => ?_⟩
    refine D.done ?_
    replace hA : St 66 [(1, _), (6, _), (7, _), (8, _), (44, _)] a := hA.sub ((.cons rfl (.cons rfl (.cons rfl (.cons rfl (.cons rfl .nil))))))
    refine Ends.iteB hA rfl (fun hc16 => ?_) (fun hc16 => ?_)
    ·
     refine Ends.drawn (Mem w2 nof []) (.cons (0, true) (.cons (1, true) (.cons (2, true) (.cons (3, true) (.cons (6, true) (.cons (7, true) (.cons (4, false) (.cons (5, false) (.cons (8, true) (.cons (9, true) .nil)))))))))) 10 mixed (by kernel_rfl) (by kernel_rfl) (by kernel_rfl) (hM.drop 0).drew ?_
     replace hM := hM.drew
     refine D.valF hA rfl (fun _ => R.move rfl) rfl ?_; clear hA a; intro a hA
     refine D.valF hA rfl (fun _ => R.move rfl) rfl ?_; clear hA a; intro a hA
     refine D.valF hA rfl (fun _ => R.idxI hV (j := 0) sl22 rfl rfl (by omega) (rfl)) rfl ?_; clear hA a; intro a hA
     refine D.val hA rfl (by kernel_rfl) (fun _ hM => R.loadI (hV.mem hM) sz3 rfl (by omega)) rfl ?_; clear hA a; intro a hA
     refine D.valF hA rfl (fun _ => R.move rfl) rfl ?_; clear hA a; intro a hA
     obtain ⟨as18, cs19, hsl17, hr20⟩ := hV.fromR 1 (by omega) (by omega)
     refine D.valF hA rfl (fun _ => (hr20 _ _ _ _ _ _ _ _ _ _ _ Try.underlying22 info3 rfl rfl rfl (by omega))) rfl ?_; clear hA a; intro a hA
     refine D.buildSl (cells := #[.int .i64 (V.getD 0 0)]) hA hM rfl Try.underlying22 info3 rfl rfl rfl rfl (by kernel_rfl) rfl ?_; clear hA hM a; intro b21 w7 hb22 hM; refine ⟨(fun hM => (hM.drop 0)) hM.tail, fun a hA => ?_⟩
     replace hM : Mem _ _ [pt b21 #[.int .i64 (V.getD 0 0)] 3, own 3 1 (.slice oa Z.length oc) Z.length (Z.map (Value.int .i64))] _ := hM
     refine D.append (k := 1) (k2 := 0) hA hM rfl rfl rfl Try.underlying22 info3 rfl rfl rfl rfl rfl rfl rfl rfl rfl (by first | (unfold maxLen; omega) | (rw [List.length_append]; unfold maxLen; omega) | (show (_ + _) * 8 ≤ (140737488355328 : Nat); omega) | (rw [List.length_append]; show (_ + _) * 8 ≤ (140737488355328 : Nat); omega)) (by first | (unfold maxLen; omega) | (rw [List.length_append]; unfold maxLen; omega) | (show (_ + _) * 8 ≤ (140737488355328 : Nat); omega) | (rw [List.length_append]; show (_ + _) * 8 ≤ (140737488355328 : Nat); omega)) rfl ?_; clear hA hM a; intro a23 c24 w8 hM
     replace hM : Mem _ _ [pt b21 #[.int .i64 (V.getD 0 0)] 3, own 3 1 (.slice a23 (Z.length + 1) c24) (Z.length + 1) (Z.map (Value.int .i64) ++ [.int .i64 (V.getD 0 0)])] _ := hM
     have hl25 : Z.length + 1 = (Z ++ [V.getD 0 0]).length := by simp
     rw [hl25, show Z.map (Value.int .i64) ++ [.int .i64 (V.getD 0 0)] = (Z ++ [V.getD 0 0]).map (Value.int .i64) by simp] at hM
     replace hM := hM.drop 0
     replace hM : Mem _ _ [own 3 1 (.slice a23 (((Z ++ [V.getD 0 0])).length) c24) (((Z ++ [V.getD 0 0])).length) (((Z ++ [V.getD 0 0])).map (Value.int .i64))] _ := hM
     refine ⟨(hM.drop 0), fun a hA => ?_⟩; rw [hl25] at hA; clear hl25
     refine D.valF hA rfl (fun _ => R.assign rfl) rfl ?_; clear hA a; intro a hA
     refine D.valF hA rfl (fun _ => R.assign rfl) rfl ?_; clear hA a; intro a hA
     refine D.done ?_
     replace hA : St 66 [(1, _), (6, _), (7, _), (8, _)] a := hA.sub ((.cons rfl (.cons rfl (.cons rfl (.cons rfl .nil)))))
     refine Ends.inBlock ?_
     replace hM := hM.firstN 1
     exact hNext ((la, U, lc, as18, (V.drop 1), cs19, a23, (Z ++ [V.getD 0 0]), c24)) _ _ ((by show _ < _; simp only [List.length_drop]; omega)) ⟨hA.sub ((.cons rfl (.cons rfl (.cons rfl (.cons rfl .nil))))), hM, hU, hsl17, (by rw [← hord, mrg_stepR (by omega) (by omega) hc16]; simp), (by simp only [List.length_drop, List.length_append, List.length_cons, List.length_nil]; omega), hAL, (fun x hx => hAR x (List.mem_of_mem_drop hx))⟩
    ·
     refine Ends.drawn (Mem w2 nof []) (.cons (0, true) (.cons (1, true) (.cons (2, true) (.cons (3, true) (.cons (6, true) (.cons (7, true) (.cons (4, false) (.cons (5, false) (.cons (8, true) (.cons (9, true) .nil)))))))))) 10 mixed (by kernel_rfl) (by kernel_rfl) (by kernel_rfl) (hM.drop 0).drew ?_
     replace hM := hM.drew
     refine D.valF hA rfl (fun _ => R.move rfl) rfl ?_; clear hA a; intro a hA
     refine D.valF hA rfl (fun _ => R.move rfl) rfl ?_; clear hA a; intro a hA
     refine D.valF hA rfl (fun _ => R.idxI hU (j := 0) sl22 rfl rfl (by omega) (rfl)) rfl ?_; clear hA a; intro a hA
     refine D.val hA rfl (by kernel_rfl) (fun _ hM => R.loadI (hU.mem hM) sz3 rfl (by omega)) rfl ?_; clear hA a; intro a hA
     refine D.valF hA rfl (fun _ => R.move rfl) rfl ?_; clear hA a; intro a hA
     obtain ⟨as27, cs28, hsl26, hr29⟩ := hU.fromR 1 (by omega) (by omega)
     refine D.valF hA rfl (fun _ => (hr29 _ _ _ _ _ _ _ _ _ _ _ Try.underlying22 info3 rfl rfl rfl (by omega))) rfl ?_; clear hA a; intro a hA
     refine D.buildSl (cells := #[.int .i64 (U.getD 0 0)]) hA hM rfl Try.underlying22 info3 rfl rfl rfl rfl (by kernel_rfl) rfl ?_; clear hA hM a; intro b30 w9 hb31 hM; refine ⟨(fun hM => (hM.drop 0)) hM.tail, fun a hA => ?_⟩
     replace hM : Mem _ _ [pt b30 #[.int .i64 (U.getD 0 0)] 3, own 3 1 (.slice oa Z.length oc) Z.length (Z.map (Value.int .i64))] _ := hM
     refine D.append (k := 1) (k2 := 0) hA hM rfl rfl rfl Try.underlying22 info3 rfl rfl rfl rfl rfl rfl rfl rfl rfl (by first | (unfold maxLen; omega) | (rw [List.length_append]; unfold maxLen; omega) | (show (_ + _) * 8 ≤ (140737488355328 : Nat); omega) | (rw [List.length_append]; show (_ + _) * 8 ≤ (140737488355328 : Nat); omega)) (by first | (unfold maxLen; omega) | (rw [List.length_append]; unfold maxLen; omega) | (show (_ + _) * 8 ≤ (140737488355328 : Nat); omega) | (rw [List.length_append]; show (_ + _) * 8 ≤ (140737488355328 : Nat); omega)) rfl ?_; clear hA hM a; intro a32 c33 w10 hM
     replace hM : Mem _ _ [pt b30 #[.int .i64 (U.getD 0 0)] 3, own 3 1 (.slice a32 (Z.length + 1) c33) (Z.length + 1) (Z.map (Value.int .i64) ++ [.int .i64 (U.getD 0 0)])] _ := hM
     have hl34 : Z.length + 1 = (Z ++ [U.getD 0 0]).length := by simp
     rw [hl34, show Z.map (Value.int .i64) ++ [.int .i64 (U.getD 0 0)] = (Z ++ [U.getD 0 0]).map (Value.int .i64) by simp] at hM
     replace hM := hM.drop 0
     replace hM : Mem _ _ [own 3 1 (.slice a32 (((Z ++ [U.getD 0 0])).length) c33) (((Z ++ [U.getD 0 0])).length) (((Z ++ [U.getD 0 0])).map (Value.int .i64))] _ := hM
     refine ⟨(hM.drop 0), fun a hA => ?_⟩; rw [hl34] at hA; clear hl34
     refine D.valF hA rfl (fun _ => R.assign rfl) rfl ?_; clear hA a; intro a hA
     refine D.valF hA rfl (fun _ => R.assign rfl) rfl ?_; clear hA a; intro a hA
     refine D.done ?_
     replace hA : St 66 [(1, _), (6, _), (7, _), (8, _)] a := hA.sub ((.cons rfl (.cons rfl (.cons rfl (.cons rfl .nil)))))
     refine Ends.inBlock ?_
     replace hM := hM.firstN 1
     exact hNext ((as27, (U.drop 1), cs28, ra, V, rc, a32, (Z ++ [U.getD 0 0]), c33)) _ _ ((by show _ < _; simp only [List.length_drop]; omega)) ⟨hA.sub ((.cons rfl (.cons rfl (.cons rfl (.cons rfl .nil))))), hM, hsl26, hV, (by rw [← hord, mrg_stepL (by omega) (by omega) hc16]; simp), (by simp only [List.length_drop, List.length_append, List.length_cons, List.length_nil]; omega), (fun x hx => hAL x (List.mem_of_mem_drop hx)), hAR⟩
   ·
    refine Ends.exit rfl ?_
    refine Ends.seq (Ends.region ?_)
    refine S.val hA (R.move rfl) rfl ?_; clear hA a; intro a hA
    refine S.val hA (R.move rfl) rfl ?_; clear hA a; intro a hA
    refine S.appendI (k := 0) hA hM rfl (hU.mem hM) Try.underlying22 info3 rfl rfl rfl rfl rfl rfl (by first | (unfold maxLen; omega) | (rw [List.length_append]; unfold maxLen; omega) | (show (_ + _) * 8 ≤ (140737488355328 : Nat); omega) | (rw [List.length_append]; show (_ + _) * 8 ≤ (140737488355328 : Nat); omega)) (by first | (unfold maxLen; omega) | (rw [List.length_append]; unfold maxLen; omega) | (show (_ + _) * 8 ≤ (140737488355328 : Nat); omega) | (rw [List.length_append]; show (_ + _) * 8 ≤ (140737488355328 : Nat); omega)) rfl ?_; clear hA hM a; intro a35 c36 w11 hM a hA
    have hl37 : Z.length + U.length = ((Z ++ U)).length := by first | (simp; done) | simp only [List.length_append]
    rw [hl37, show Z.map (Value.int .i64) ++ U.map (Value.int .i64) = ((Z ++ U)).map (Value.int .i64) by simp] at hM; rw [hl37] at hA; clear hl37
    replace hM : Mem _ _ [own 3 1 (.slice a35 (((Z ++ U)).length) c36) (((Z ++ U)).length) (((Z ++ U)).map (Value.int .i64))] _ := hM
    refine S.val hA (R.move rfl) rfl ?_; clear hA a; intro a hA
    refine S.appendI (k := 0) hA hM rfl (hV.mem hM) Try.underlying22 info3 rfl rfl rfl rfl rfl rfl (by first | (unfold maxLen; omega) | (rw [List.length_append]; unfold maxLen; omega) | (show (_ + _) * 8 ≤ (140737488355328 : Nat); omega) | (rw [List.length_append]; show (_ + _) * 8 ≤ (140737488355328 : Nat); omega)) (by first | (unfold maxLen; omega) | (rw [List.length_append]; unfold maxLen; omega) | (show (_ + _) * 8 ≤ (140737488355328 : Nat); omega) | (rw [List.length_append]; show (_ + _) * 8 ≤ (140737488355328 : Nat); omega)) rfl ?_; clear hA hM a; intro a38 c39 w12 hM a hA
    have hl40 : (((Z ++ U)).length) + V.length = (((Z ++ U) ++ V)).length := by first | (simp; done) | simp only [List.length_append]
    rw [hl40, show ((Z ++ U)).map (Value.int .i64) ++ V.map (Value.int .i64) = (((Z ++ U) ++ V)).map (Value.int .i64) by simp] at hM; rw [hl40] at hA; clear hl40
    replace hM : Mem _ _ [own 3 1 (.slice a38 ((((Z ++ U) ++ V)).length) c39) ((((Z ++ U) ++ V)).length) ((((Z ++ U) ++ V)).map (Value.int .i64))] _ := hM
    refine S.val hA (R.assign rfl) rfl ?_; clear hA a; intro a hA
    refine S.done ?_
    replace hA : St 66 [(4, _)] a := hA.sub ((.cons rfl .nil))
    refine Ends.ret1 Try.func78 Try.results78 hA rfl ?_
    have hend := mrg_end (lt := lt) (X := U) (Y := V) (by omega)
    have hfin : msort lt (f + 1) X = (Z ++ U) ++ V := by rw [msort, if_neg (by omega), ← hord, hend, List.append_assoc]
    rw [hfin]
    have hr := hM.rsl (k := 0) rfl
    exact ⟨_, _, rfl, hr, .inr ((hM.ownFresh (k := 0) rfl).mono hbs.size), Mem.trans0 hbs hM.nilL⟩
  ·
   refine Ends.region ?_
   refine S.val hA (R.move rfl) rfl ?_; clear hA a; intro a hA
   refine S.val hA (R.lenS Try.underlying22 rfl rfl) rfl ?_; clear hA a; intro a hA
   refine S.val hA (R.gtr rfl rfl) rfl ?_; clear hA a; intro a hA
   refine S.val hA (R.move rfl) rfl ?_; clear hA a; intro a hA
   refine hA.split (d := 32) rfl ?_ ?_
   ·
    clear hA; intro hg41 hA
    refine S.valg (dj := 32) hA (by kernel_rfl) rfl (R.move rfl) rfl ?_; clear hA a; intro a hA
    refine S.valg (dj := 32) hA (by kernel_rfl) rfl (R.lenS Try.underlying22 rfl rfl) rfl ?_; clear hA a; intro a hA
    refine S.valg (dj := 32) hA (by kernel_rfl) rfl (R.gtr rfl rfl) rfl ?_; clear hA a; intro a hA
    refine S.val hA (R.pickT rfl rfl) rfl ?_; clear hA a; intro a hA
    refine S.done ?_
    replace hA : St 66 [(1, _), (6, _), (7, _), (8, _), (36, _)] a := hA.sub ((.cons rfl (.cons rfl (.cons rfl (.cons rfl (.cons rfl .nil))))))
    exact hJ _ _ ⟨hA.sub (.cons rfl (.cons rfl (.cons rfl (.cons rfl (.cons (by first | rfl | exact congrArg (fun b => some (Value.bool b)) (by first | exact decide_eq_decide.2 (by omega) | exact or_bool (by omega) | exact and_bool (by omega) | (simp; done) | (simp [hg41]; done) | (have h80 := hg41; (try simp at h80); simp [h80]; done) | exact (decide_eq_false (fun h9 => hg41 h9.1)).symm)) .nil))))), hM⟩
   ·
    clear hA; intro hg41 hA
    refine S.no (dj := 32) hA (by kernel_rfl) rfl rfl rfl ?_; clear hA a; intro a hA
    refine S.no (dj := 32) hA (by kernel_rfl) rfl rfl rfl ?_; clear hA a; intro a hA
    refine S.no (dj := 32) hA (by kernel_rfl) rfl rfl rfl ?_; clear hA a; intro a hA
    refine S.val hA (R.pickF rfl rfl) rfl ?_; clear hA a; intro a hA
    refine S.done ?_
    replace hA : St 66 [(1, _), (6, _), (7, _), (8, _), (36, _)] a := hA.sub ((.cons rfl (.cons rfl (.cons rfl (.cons rfl (.cons rfl .nil))))))
    exact hJ _ _ ⟨hA.sub (.cons rfl (.cons rfl (.cons rfl (.cons rfl (.cons (by first | rfl | exact congrArg (fun b => some (Value.bool b)) (by first | exact decide_eq_decide.2 (by omega) | exact or_bool (by omega) | exact and_bool (by omega) | (simp; done) | (simp [hg41]; done) | (have h80 := hg41; (try simp at h80); simp [h80]; done) | exact (decide_eq_false (fun h9 => hg41 h9.1)).symm)) .nil))))), hM⟩
theorem merge_anyF {lt : Int → Int → Bool} {A : Int → Prop} {cf : FuncId} {cs : Array Value} {fn : Func} (hcf : Try.prog.funcs[cf]? = some fn) (hcn : (fn.name == "runtime.NumGoroutine") = false) (hcb : fn.body.isNone = false) : ∀ f, MergeAtF A lt cf cs (f + 1)
  | 0 => fun ax X cx w h1 h2 h3 h4 h5 => merge_stepF hcf hcn hcb 0 (fun ax X cx w h1 _ _ h4 _ => merge_short cf cs ax X cx (by omega) w h4) ax X cx h1 h2 h3 w h4 h5
  | f + 1 => fun ax X cx w h1 h2 h3 h4 h5 => merge_stepF hcf hcn hcb (f + 1) (merge_any hcf hcn hcb f) ax X cx h1 h2 h3 w h4 h5
set_option maxRecDepth 100000 in
set_option maxHeartbeats 400000 in
theorem byratioF (av : Option Addr) (V : List Int) (cv : Nat) (au : Option Addr) (U : List Int) (cu : Nat) (hbv : bdI V) (hbu : bdI U) (w : World) (hv : IntSl w (.slice av V.length cv) V) (hu : IntSl w (.slice au U.length cu) U) :
  Calls Try.prog 71 #[.slice av V.length cv, .slice au U.length cu] w fun e w' => ∃ a c, e = .returned (.tuple #[.slice a (qL V U).length c, .int .i64 (qE V U)]) ∧ IntSl w' (.slice a (qL V U).length c) (qL V U) ∧ frs w.heap.size a ∧ Below w.heap.size w w' := by
 have hbs := Below.refl (B := w.heap.size) w
 have hlV := hv.lenB
 have hlU := hu.lenB
 have hM := Mem.start w
 refine Calls.of_ends (vs := [.slice av V.length cv, .slice au U.length cu]) Try.func71 rfl Try.ntmps71 rfl ?_
 intro a hA
 replace hA : St 29 [(0, _), (1, _)] a := hA
 refine Ends.seq (Ends.region ?_)
 refine S.box hA hM rfl rfl ?_; clear hA hM a; intro b1 w1 hb2 hM a hA
 replace hM : Mem _ _ [pt b1 #[.slice av V.length cv] 22] _ := hM
 refine S.box hA hM rfl rfl ?_; clear hA hM a; intro b3 w2 hb4 hM a hA
 replace hM : Mem _ _ [pt b3 #[.slice au U.length cu] 22, pt b1 #[.slice av V.length cv] 22] _ := hM
 refine S.val hA (R.assign rfl) rfl ?_; clear hA a; intro a hA
 refine S.val hA (R.assign rfl) rfl ?_; clear hA a; intro a hA
 refine S.done ?_
 replace hA : St 29 [(2, _), (3, _)] a := hA.sub ((.cons rfl (.cons rfl .nil)))
 refine Ends.seq (Ends.seq ?_)
 refine Ends.cut (fun (a : Act) (wv : World) => St 29 [(2, .pointer (some ⟨b1, 0, none⟩)), (3, .pointer (some ⟨b3, 0, none⟩)), (23, .bool (decide ((((((V.length : Int)) ≠ ((U.length : Int)) ∨ 64 < ((V.length : Int))) ∨ ((hasNeg V)) = true) ∨ ((hasNeg U)) = true))))] a ∧ Mem w nof [pt b3 #[.slice au U.length cu] 22, pt b1 #[.slice av V.length cv] 22] wv) ?_ (fun k2 hJ => ?_)
 ·
  clear hA hM a; rintro a w3 ⟨hA, hM⟩
  refine Ends.ite hA rfl (fun hc5 => ?_) (fun hc5 => ?_)
  ·
   have hnb : badQ V U := badQ_iff.2 hc5
   refine Ends.seq (Ends.region ?_)
   refine S.val hA (R.assign rfl) rfl ?_; clear hA a; intro a hA
   refine S.val hA (R.assign rfl) rfl ?_; clear hA a; intro a hA
   refine S.done ?_
   refine Ends.ret2 Try.func71 Try.results71 hA rfl rfl ?_
   rw [show qL V U = [] from if_pos hnb, show qE V U = 1 from if_pos hnb]
   exact ⟨none, 0, rfl, IntSl.nil _, (fun p hp => by cases hp), Mem.trans0 hbs hM.nilL⟩
  ·
   have hnb : ¬ badQ V U := fun h9 => hc5 (badQ_iff.1 h9)
   obtain ⟨hvw, h64, hnv, hnu⟩ := not_bad hnb
   refine Ends.skip (Ends.seq (Ends.region ?_))
   refine S.val hA (R.load sz22 rfl (hM.cell (k := 1) rfl rfl)) rfl ?_; clear hA a; intro a hA
   refine S.val hA (R.lenS Try.underlying22 rfl rfl) rfl ?_; clear hA a; intro a hA
   have hsz1 := Nat.le_trans hbs.size hM.size
   refine S.call hA (R.callF Try.func57 rfl rfl rfl) rfl (plain_nF V.length (by omega) _) ?_; clear hA a
   rintro e w4 ⟨ra6, rc7, rfl, rh8, hf1_, hb⟩
   replace hM := hM.callB hb; clear hb
   have hbx9 := hM.block (k := 0) rfl
   have hbx10 := hM.block (k := 1) rfl
   have hbs := hbs.trans (hM.below.mono hbs.size)
   have hv := hv.mem hM
   have hu := hu.mem hM
   replace hM := Mem.start w4
   have hf1 := hf1_.mono hsz1
   refine ⟨.slice ra6 (((pl V.length)).length) rc7, rfl, fun a hA => ?_⟩
   refine S.val hA (R.to (v := .func (.func 79) #[] #[.pointer (some ⟨b3, 0, none⟩), .pointer (some ⟨b1, 0, none⟩)]) (R.makeFunc rfl) rfl) rfl ?_; clear hA a; intro a hA
   have hah : AheadAt (inRq V.length) (ltq V U) 79 #[.pointer (some ⟨b3, 0, none⟩), .pointer (some ⟨b1, 0, none⟩)] w4 := fun w' hb x y hx hy => byratio1 b3 b1 au U cu av V cv x y hvw hbv hbu hx hy w' ((Mem.of_below hb).keepB hbx9) ((Mem.of_below hb).keepB hbx10) (hu.below hb (Nat.le_refl _)) (hv.below hb (Nat.le_refl _))
   have hsz2 := Nat.le_trans hbs.size hM.size
   refine S.call hA (R.callF Try.func78 rfl rfl rfl) rfl (merge_anyF Try.func79 (by kernel_rfl) rfl V.length ra6 ((pl V.length)) rc7 _ (by rw [pl_len]; omega) (by rw [pl_len]; omega) (fun x hx => mem_pl.1 hx) (rh8.mem hM) hah) ?_; clear hA a
   rintro e w5 ⟨ra11, rc12, rfl, rh13, hf2, hb⟩
   replace hM := hM.callB hb; clear hb
   have hbs := hbs.trans (hM.below.mono hbs.size)
   have hv := hv.mem hM
   have hu := hu.mem hM
   have rh8 := rh8.mem hM
   have hbx9 := hM.keepB hbx9
   have hbx10 := hM.keepB hbx10
   replace hM := Mem.start w5
   refine ⟨.slice ra11 (((byQ V U)).length) rc12, rfl, fun a hA => ?_⟩
   refine S.val hA (R.assign rfl) rfl ?_; clear hA a; intro a hA
   refine S.val hA (R.assign rfl) rfl ?_; clear hA a; intro a hA
   refine S.done ?_
   replace hA : St 29 [(4, _), (5, _)] a := hA.sub ((.cons rfl (.cons rfl .nil)))
   refine Ends.ret2 Try.func71 Try.results71 hA rfl rfl ?_
   rw [show qL V U = byQ V U from if_neg hnb, show qE V U = 0 from if_neg hnb]
   have hf9 : frs w.heap.size ra11 := by
    rcases hf2 with g | g
    · rw [g]; exact hf1
    · exact g.mono hsz2
   exact ⟨_, _, rfl, rh13, hf9, Mem.trans0 hbs hM.nilL⟩
 ·
  refine Ends.region ?_
  refine S.val hA (R.load sz22 rfl (hM.cell (k := 1) rfl rfl)) rfl ?_; clear hA a; intro a hA
  refine S.val hA (R.lenS Try.underlying22 rfl rfl) rfl ?_; clear hA a; intro a hA
  refine S.val hA (R.load sz22 rfl (hM.cell (k := 0) rfl rfl)) rfl ?_; clear hA a; intro a hA
  refine S.val hA (R.lenS Try.underlying22 rfl rfl) rfl ?_; clear hA a; intro a hA
  refine S.val hA (R.neq rfl rfl) rfl ?_; clear hA a; intro a hA
  refine S.val hA (R.move rfl) rfl ?_; clear hA a; intro a hA
  refine hA.split (d := 11) rfl ?_ ?_
  ·
   clear hA; intro hg14 hA
   refine S.no (dj := 11) hA (by kernel_rfl) rfl rfl rfl ?_; clear hA a; intro a hA
   refine S.no (dj := 11) hA (by kernel_rfl) rfl rfl rfl ?_; clear hA a; intro a hA
   refine S.no (dj := 11) hA (by kernel_rfl) rfl rfl rfl ?_; clear hA a; intro a hA
   refine S.val hA (R.pickT rfl rfl) rfl ?_; clear hA a; intro a hA
   refine S.val hA (R.move rfl) rfl ?_; clear hA a; intro a hA
   refine S.no (dj := 16) hA (by kernel_rfl) rfl rfl rfl ?_; clear hA a; intro a hA
   refine S.no (dj := 16) hA (by kernel_rfl) rfl rfl rfl ?_; clear hA a; intro a hA
   refine S.val hA (R.pickT rfl rfl) rfl ?_; clear hA a; intro a hA
   refine S.val hA (R.move rfl) rfl ?_; clear hA a; intro a hA
   refine S.no (dj := 20) hA (by kernel_rfl) rfl rfl rfl ?_; clear hA a; intro a hA
   refine S.no (dj := 20) hA (by kernel_rfl) rfl rfl rfl ?_; clear hA a; intro a hA
   refine S.val hA (R.pickT rfl rfl) rfl ?_; clear hA a; intro a hA
   refine S.done ?_
   replace hA : St 29 [(2, _), (3, _), (23, _)] a := hA.sub ((.cons rfl (.cons rfl (.cons rfl .nil))))
   exact hJ _ _ ⟨hA.sub (.cons rfl (.cons rfl (.cons (by first | rfl | exact congrArg (fun b => some (Value.bool b)) (by first | exact decide_eq_decide.2 (by omega) | exact or_bool (by omega) | exact and_bool (by omega) | (simp; done) | (simp [hg14]; done) | (have h80 := hg14; (try simp at h80); simp [h80]; done) | exact (decide_eq_false (fun h9 => hg14 h9.1)).symm)) .nil))), hM⟩
  ·
   clear hA; intro hg14 hA
   refine S.valg (dj := 11) hA (by kernel_rfl) rfl (R.load sz22 rfl (hM.cell (k := 1) rfl rfl)) rfl ?_; clear hA a; intro a hA
   refine S.valg (dj := 11) hA (by kernel_rfl) rfl (R.lenS Try.underlying22 rfl rfl) rfl ?_; clear hA a; intro a hA
   refine S.valg (dj := 11) hA (by kernel_rfl) rfl (R.gtr rfl rfl) rfl ?_; clear hA a; intro a hA
   refine S.val hA (R.pickF rfl rfl) rfl ?_; clear hA a; intro a hA
   refine S.val hA (R.move rfl) rfl ?_; clear hA a; intro a hA
   refine hA.split (d := 16) rfl ?_ ?_
   ·
    clear hA; intro hg15 hA
    refine S.no (dj := 16) hA (by kernel_rfl) rfl rfl rfl ?_; clear hA a; intro a hA
    refine S.no (dj := 16) hA (by kernel_rfl) rfl rfl rfl ?_; clear hA a; intro a hA
    refine S.val hA (R.pickT rfl rfl) rfl ?_; clear hA a; intro a hA
    refine S.val hA (R.move rfl) rfl ?_; clear hA a; intro a hA
    refine S.no (dj := 20) hA (by kernel_rfl) rfl rfl rfl ?_; clear hA a; intro a hA
    refine S.no (dj := 20) hA (by kernel_rfl) rfl rfl rfl ?_; clear hA a; intro a hA
    refine S.val hA (R.pickT rfl rfl) rfl ?_; clear hA a; intro a hA
    refine S.done ?_
    replace hA : St 29 [(2, _), (3, _), (23, _)] a := hA.sub ((.cons rfl (.cons rfl (.cons rfl .nil))))
    exact hJ _ _ ⟨hA.sub (.cons rfl (.cons rfl (.cons (by first | rfl | exact congrArg (fun b => some (Value.bool b)) (by first | exact decide_eq_decide.2 (by omega) | exact or_bool (by omega) | exact and_bool (by omega) | (simp; done) | (simp [hg14, hg15]; done) | (have h80 := hg14; (try simp at h80); have h81 := hg15; (try simp at h81); simp [h80, h81]; done) | exact (decide_eq_false (fun h9 => hg14 h9.1)).symm | exact (decide_eq_false (fun h9 => hg15 h9.1)).symm)) .nil))), hM⟩
   ·
    clear hA; intro hg15 hA
    refine S.valg (dj := 16) hA (by kernel_rfl) rfl (R.load sz22 rfl (hM.cell (k := 1) rfl rfl)) rfl ?_; clear hA a; intro a hA
    refine S.callg (dj := 16) hA (by kernel_rfl) rfl (R.callF Try.func76 rfl rfl rfl) rfl (contains09 av V cv _ (hv.mem hM)) ?_; clear hA a
    rintro e w6 ⟨rfl, hb⟩
    replace hM := hM.callB hb; clear hb
    refine ⟨.bool ((hasNeg V)), rfl, fun a hA => ?_⟩
    refine S.val hA (R.pickF rfl rfl) rfl ?_; clear hA a; intro a hA
    refine S.val hA (R.move rfl) rfl ?_; clear hA a; intro a hA
    refine hA.splitB (d := 20) rfl ?_ ?_
    ·
     clear hA; intro hg16 hA
     refine S.no (dj := 20) hA (by kernel_rfl) rfl rfl rfl ?_; clear hA a; intro a hA
     refine S.no (dj := 20) hA (by kernel_rfl) rfl rfl rfl ?_; clear hA a; intro a hA
     refine S.val hA (R.pickT rfl rfl) rfl ?_; clear hA a; intro a hA
     refine S.done ?_
     replace hA : St 29 [(2, _), (3, _), (23, _)] a := hA.sub ((.cons rfl (.cons rfl (.cons rfl .nil))))
     exact hJ _ _ ⟨hA.sub (.cons rfl (.cons rfl (.cons (by first | rfl | exact congrArg (fun b => some (Value.bool b)) (by first | exact decide_eq_decide.2 (by omega) | exact or_bool (by omega) | exact and_bool (by omega) | (simp; done) | (simp [hg14, hg15, hg16]; done) | (have h80 := hg14; (try simp at h80); have h81 := hg15; (try simp at h81); have h82 := hg16; (try simp at h82); simp [h80, h81, h82]; done) | exact (decide_eq_false (fun h9 => hg14 h9.1)).symm | exact (decide_eq_false (fun h9 => hg15 h9.1)).symm | exact (decide_eq_false (fun h9 => hg16 h9.1)).symm)) .nil))), hM⟩
    ·
     clear hA; intro hg16 hA
     refine S.valg (dj := 20) hA (by kernel_rfl) rfl (R.load sz22 rfl (hM.cell (k := 0) rfl rfl)) rfl ?_; clear hA a; intro a hA
     refine S.callg (dj := 20) hA (by kernel_rfl) rfl (R.callF Try.func76 rfl rfl rfl) rfl (contains09 au U cu _ (hu.mem hM)) ?_; clear hA a
     rintro e w7 ⟨rfl, hb⟩
     replace hM := hM.callB hb; clear hb
     refine ⟨.bool ((hasNeg U)), rfl, fun a hA => ?_⟩
     refine S.val hA (R.pickF rfl rfl) rfl ?_; clear hA a; intro a hA
     refine S.done ?_
     replace hA : St 29 [(2, _), (3, _), (23, _)] a := hA.sub ((.cons rfl (.cons rfl (.cons rfl .nil))))
     exact hJ _ _ ⟨hA.sub (.cons rfl (.cons rfl (.cons (by first | rfl | exact congrArg (fun b => some (Value.bool b)) (by first | exact decide_eq_decide.2 (by omega) | exact or_bool (by omega) | exact and_bool (by omega) | (simp; done) | (simp [hg14, hg15, hg16]; done) | (have h80 := hg14; (try simp at h80); have h81 := hg15; (try simp at h81); have h82 := hg16; (try simp at h82); simp [h80, h81, h82]; done) | exact (decide_eq_false (fun h9 => hg14 h9.1)).symm | exact (decide_eq_false (fun h9 => hg15 h9.1)).symm | exact (decide_eq_false (fun h9 => hg16 h9.1)).symm)) .nil))), hM⟩
set_option maxRecDepth 100000 in
set_option maxHeartbeats 400000 in
theorem rbyratioF (av : Option Addr) (V : List Int) (cv : Nat) (au : Option Addr) (U : List Int) (cu : Nat) (hbv : bdI V) (hbu : bdI U) (w : World) (hv : IntSl w (.slice av V.length cv) V) (hu : IntSl w (.slice au U.length cu) U) :
  Calls Try.prog 65 #[.slice av V.length cv, .slice au U.length cu] w fun e w' => ∃ a c, e = .returned (.tuple #[.slice a (qL V U).length c, .int .i64 (qE V U)]) ∧ IntSl w' (.slice a (qL V U).length c) (qL V U) ∧ frs w.heap.size a ∧ Below w.heap.size w w' := by
 have hbs := Below.refl (B := w.heap.size) w
 have hlV := hv.lenB
 have hlU := hu.lenB
 have hM := Mem.start w
 refine Calls.of_ends (vs := [.slice av V.length cv, .slice au U.length cu]) Try.func65 rfl Try.ntmps65 rfl ?_
 intro a hA
 replace hA : St 71 [(0, _), (1, _)] a := hA
 refine Ends.seq (Ends.region ?_)
 refine S.val hA (R.assign rfl) rfl ?_; clear hA a; intro a hA
 refine S.val hA (R.assign rfl) rfl ?_; clear hA a; intro a hA
 refine S.done ?_
 refine Ends.seq (Ends.seq ?_)
 refine Ends.cut (fun (a : Act) (wv : World) => St 71 [(0, .slice av V.length cv), (1, .slice au U.length cu), (20, .bool (decide ((((V.length : Int)) ≠ ((U.length : Int)) ∨ 64 < ((V.length : Int))))))] a ∧ Mem w nof [] wv) ?_ (fun k2 hJ => ?_)
 ·
  clear hA hM a; rintro a w1 ⟨hA, hM⟩
  refine Ends.ite hA rfl (fun hc1 => ?_) (fun hc1 => ?_)
  ·
   refine Ends.seq (Ends.region ?_)
   refine S.val hA (R.assign rfl) rfl ?_; clear hA a; intro a hA
   refine S.val hA (R.assign rfl) rfl ?_; clear hA a; intro a hA
   refine S.done ?_
   refine Ends.ret2 Try.func65 Try.results65 hA rfl rfl ?_
   have hnb : badQ V U := .inl (.inl (by omega))
   rw [show qL V U = [] from if_pos hnb, show qE V U = 1 from if_pos hnb]
   exact ⟨none, 0, rfl, IntSl.nil _, (fun p hp => by cases hp), Mem.trans0 hbs hM.nilL⟩
  ·
   have hvw : V.length = U.length := by omega
   refine Ends.skip (Ends.seq (Ends.seq (Ends.region ?_)))
   refine S.val hA (R.assign rfl) rfl ?_; clear hA a; intro a hA
   refine S.done ?_
   refine Ends.block ?_
   refine Ends.loop (σ := Nat) (fun k (a : Act) (wv : World) => St 71 [(0, .slice av V.length cv), (1, .slice au U.length cu), (6, .int .i64 ((k : Int)))] a ∧ Mem w nof [] wv ∧ (k ≤ V.length) ∧ (∀ j, j < k → 0 ≤ V.getD j 0) ∧ (∀ j, j < k → 0 ≤ U.getD j 0)) (fun k => V.length - k) 0 ⟨hA.sub ((.cons rfl (.cons rfl (.cons rfl .nil)))), hM, (Nat.zero_le _), (fun j hj => absurd hj (Nat.not_lt_zero _)), (fun j hj => absurd hj (Nat.not_lt_zero _))⟩ ?_
   clear hA hM a
   rintro k a w2 ⟨hA, hM, hk, hk2, hk3⟩ hNext
   refine Ends.seq (Ends.seq (Ends.region ?_))
   refine S.val hA (R.move rfl) rfl ?_; clear hA a; intro a hA
   refine S.val hA (R.move rfl) rfl ?_; clear hA a; intro a hA
   refine S.val hA (R.lenS Try.underlying22 rfl rfl) rfl ?_; clear hA a; intro a hA
   refine S.val hA (R.lss rfl rfl) rfl ?_; clear hA a; intro a hA
   refine S.done ?_
   refine Ends.ite hA rfl (fun hc2 => ?_) (fun hc2 => ?_)
   ·
    refine Ends.skip (Ends.seq (Ends.block (Ends.seq ?_)))
    refine Ends.cut (fun (a : Act) (wv : World) => St 71 [(0, .slice av V.length cv), (1, .slice au U.length cu), (6, .int .i64 ((k : Int))), (38, .bool (decide (((V.getD k 0) < 0 ∨ (U.getD k 0) < 0))))] a ∧ Mem w nof [] wv) ?_ (fun k2 hJ => ?_)
    ·
     clear hA hM a; rintro a w3 ⟨hA, hM⟩
     refine Ends.ite hA rfl (fun hc3 => ?_) (fun hc3 => ?_)
     ·
      refine Ends.seq (Ends.region ?_)
      refine S.val hA (R.assign rfl) rfl ?_; clear hA a; intro a hA
      refine S.val hA (R.assign rfl) rfl ?_; clear hA a; intro a hA
      refine S.done ?_
      refine Ends.ret2 Try.func65 Try.results65 hA rfl rfl ?_
      have hnb : badQ V U := by
       rcases hc3 with g | g
       · exact .inl (.inr (hasNeg_at (k := k) (by omega) (by omega)))
       · exact .inr (hasNeg_at (k := k) (by omega) (by omega))
      rw [show qL V U = [] from if_pos hnb, show qE V U = 1 from if_pos hnb]
      exact ⟨none, 0, rfl, IntSl.nil _, (fun p hp => by cases hp), Mem.trans0 hbs hM.nilL⟩
     ·
      refine Ends.skip (Ends.inBlock (Ends.region ?_))
      refine S.val hA (R.move rfl) rfl ?_; clear hA a; intro a hA
      refine S.val hA (R.addI rfl rfl (r := ((k : Int)) + 1) rfl (by omega)) rfl ?_; clear hA a; intro a hA
      refine S.val hA (R.assign rfl) rfl ?_; clear hA a; intro a hA
      refine S.done ?_
      exact hNext ((k + 1)) _ _ ((by show V.length - (k + 1) < V.length - k; omega)) ⟨hA.sub ((.cons rfl (.cons rfl (.cons rfl .nil)))), hM, (by omega), (fun j hj => (Nat.lt_or_ge j k).elim (fun g => hk2 j g) (fun g => by have e : j = k := (by omega); rw [e]; omega)), (fun j hj => (Nat.lt_or_ge j k).elim (fun g => hk3 j g) (fun g => by have e : j = k := (by omega); rw [e]; omega))⟩
    ·
     refine Ends.region ?_
     refine S.val hA (R.move rfl) rfl ?_; clear hA a; intro a hA
     refine S.val hA (R.move rfl) rfl ?_; clear hA a; intro a hA
     refine S.val hA (R.idxI hv (j := k) sl22 rfl rfl (by omega) (rfl)) rfl ?_; clear hA a; intro a hA
     refine S.val hA (R.loadI (hv.mem hM) sz3 rfl (by omega)) rfl ?_; clear hA a; intro a hA
     refine S.val hA (R.lss rfl rfl) rfl ?_; clear hA a; intro a hA
     refine S.val hA (R.move rfl) rfl ?_; clear hA a; intro a hA
     refine hA.split (d := 32) rfl ?_ ?_
     ·
      clear hA; intro hg4 hA
      refine S.no (dj := 32) hA (by kernel_rfl) rfl rfl rfl ?_; clear hA a; intro a hA
      refine S.no (dj := 32) hA (by kernel_rfl) rfl rfl rfl ?_; clear hA a; intro a hA
      refine S.no (dj := 32) hA (by kernel_rfl) rfl rfl rfl ?_; clear hA a; intro a hA
      refine S.no (dj := 32) hA (by kernel_rfl) rfl rfl rfl ?_; clear hA a; intro a hA
      refine S.no (dj := 32) hA (by kernel_rfl) rfl rfl rfl ?_; clear hA a; intro a hA
      refine S.val hA (R.pickT rfl rfl) rfl ?_; clear hA a; intro a hA
      refine S.done ?_
      replace hA : St 71 [(0, _), (1, _), (6, _), (38, _)] a := hA.sub ((.cons rfl (.cons rfl (.cons rfl (.cons rfl .nil)))))
      exact hJ _ _ ⟨hA.sub (.cons rfl (.cons rfl (.cons rfl (.cons (by first | rfl | exact congrArg (fun b => some (Value.bool b)) (by first | exact decide_eq_decide.2 (by omega) | exact or_bool (by omega) | exact and_bool (by omega) | (simp; done) | (simp [hg4]; done) | (have h80 := hg4; (try simp at h80); simp [h80]; done) | exact (decide_eq_false (fun h9 => hg4 h9.1)).symm)) .nil)))), hM⟩
     ·
      clear hA; intro hg4 hA
      refine S.valg (dj := 32) hA (by kernel_rfl) rfl (R.move rfl) rfl ?_; clear hA a; intro a hA
      refine S.valg (dj := 32) hA (by kernel_rfl) rfl (R.move rfl) rfl ?_; clear hA a; intro a hA
      refine S.valg (dj := 32) hA (by kernel_rfl) rfl (R.idxI hu (j := k) sl22 rfl rfl (by omega) (rfl)) rfl ?_; clear hA a; intro a hA
      refine S.valg (dj := 32) hA (by kernel_rfl) rfl (R.loadI (hu.mem hM) sz3 rfl (by omega)) rfl ?_; clear hA a; intro a hA
      refine S.valg (dj := 32) hA (by kernel_rfl) rfl (R.lss rfl rfl) rfl ?_; clear hA a; intro a hA
      refine S.val hA (R.pickF rfl rfl) rfl ?_; clear hA a; intro a hA
      refine S.done ?_
      replace hA : St 71 [(0, _), (1, _), (6, _), (38, _)] a := hA.sub ((.cons rfl (.cons rfl (.cons rfl (.cons rfl .nil)))))
      exact hJ _ _ ⟨hA.sub (.cons rfl (.cons rfl (.cons rfl (.cons (by first | rfl | exact congrArg (fun b => some (Value.bool b)) (by first | exact decide_eq_decide.2 (by omega) | exact or_bool (by omega) | exact and_bool (by omega) | (simp; done) | (simp [hg4]; done) | (have h80 := hg4; (try simp at h80); simp [h80]; done) | exact (decide_eq_false (fun h9 => hg4 h9.1)).symm)) .nil)))), hM⟩
   ·
    obtain rfl : k = V.length := by omega
    have hnv0 := hasNeg_no hk2
    have hnuf := hasNeg_no (X := U) (fun j hj => hk3 j (by omega))
    have hnu0 := getD_nn (nn_of hnuf)
    have hnb : ¬ badQ V U := fun h9 => by
     rcases h9 with ((g | g) | g) | g
     · omega
     · omega
     · rw [hnv0] at g; cases g
     · rw [hnuf] at g; cases g
    refine Ends.exit rfl ?_
    refine Ends.seq (Ends.region ?_)
    refine S.val hA (R.move rfl) rfl ?_; clear hA a; intro a hA
    refine S.val hA (R.lenS Try.underlying22 rfl rfl) rfl ?_; clear hA a; intro a hA
    refine S.make hA hM Try.underlying22 info3 rfl rfl rfl (by omega) (by show (8 : Int) * _ ≤ _; omega) (by omega) rfl ?_; clear hA hM a; intro b5 w4 hb6 hM a hA
    replace hM : Mem _ _ [pt b5 (madeCells #[.int .i64 0] (V.length * 1)) 3] _ := hM
    rw [Nat.mul_one, made_ints] at hM
    replace hM : Mem _ _ [pt b5 ((ints (List.replicate V.length 0))) 3] _ := hM
    refine S.val hA (R.assign rfl) rfl ?_; clear hA a; intro a hA
    refine S.done ?_
    replace hA : St 71 [(0, _), (1, _), (7, _)] a := hA.sub ((.cons rfl (.cons rfl (.cons rfl .nil))))
    refine Ends.seq (Ends.seq (Ends.region ?_))
    refine S.val hA (R.assign rfl) rfl ?_; clear hA a; intro a hA
    refine S.done ?_
    refine Ends.block ?_
    refine Ends.loop (σ := Nat × List Int) (fun (m, out) (a : Act) (wv : World) => St 71 [(0, .slice av V.length cv), (1, .slice au U.length cu), (7, .slice (some ⟨b5, 0, none⟩) V.length V.length), (8, .int .i64 ((m : Int)))] a ∧ Mem w nof [pt b5 ((ints out)) 3] wv ∧ (m ≤ V.length) ∧ (laid V.length (byQ V U) out m)) (fun (m, out) => V.length - m) ((0, List.replicate V.length 0)) ⟨hA.sub ((.cons rfl (.cons rfl (.cons rfl (.cons rfl .nil))))), hM, (Nat.zero_le _), (laid_zero (byQ_perm V U))⟩ ?_
    clear hA hM a
    rintro ⟨m, out⟩ a w5 ⟨hA, hM, hm, hld⟩ hNext1
    refine Ends.seq (Ends.seq (Ends.region ?_))
    refine S.val hA (R.move rfl) rfl ?_; clear hA a; intro a hA
    refine S.val hA (R.move rfl) rfl ?_; clear hA a; intro a hA
    refine S.val hA (R.lenS Try.underlying22 rfl rfl) rfl ?_; clear hA a; intro a hA
    refine S.val hA (R.lss rfl rfl) rfl ?_; clear hA a; intro a hA
    refine S.done ?_
    refine Ends.ite hA rfl (fun hc7 => ?_) (fun hc7 => ?_)
    ·
     have hol := hld.1
     have hrl := rk_le (rb := (rbo (ltq V U))) V.length (m : Int)
     refine Ends.skip (Ends.seq (Ends.block (Ends.seq (Ends.region ?_))))
     refine S.val hA (R.assign rfl) rfl ?_; clear hA a; intro a hA
     refine S.done ?_
     replace hA : St 71 [(0, _), (1, _), (7, _), (8, _), (9, _)] a := hA.sub ((.cons rfl (.cons rfl (.cons rfl (.cons rfl (.cons rfl .nil))))))
     refine Ends.seq (Ends.seq (Ends.region ?_))
     refine S.val hA (R.assign rfl) rfl ?_; clear hA a; intro a hA
     refine S.done ?_
     refine Ends.block ?_
     refine Ends.loop (σ := Nat) (fun b (a : Act) (wv : World) => St 71 [(0, .slice av V.length cv), (1, .slice au U.length cu), (7, .slice (some ⟨b5, 0, none⟩) V.length V.length), (8, .int .i64 ((m : Int))), (9, .int .i64 (((rk (rbo (ltq V U)) b (m : Int) : Nat) : Int))), (10, .int .i64 ((b : Int)))] a ∧ Mem w nof [pt b5 ((ints out)) 3] wv ∧ (b ≤ V.length)) (fun b => V.length - b) 0 ⟨hA.sub ((.cons rfl (.cons rfl (.cons rfl (.cons rfl (.cons rfl (.cons rfl .nil))))))), hM, (Nat.zero_le _)⟩ ?_
     clear hA hM a
     rintro b a w6 ⟨hA, hM, hb⟩ hNext2
     refine Ends.seq (Ends.seq (Ends.region ?_))
     refine S.val hA (R.move rfl) rfl ?_; clear hA a; intro a hA
     refine S.val hA (R.move rfl) rfl ?_; clear hA a; intro a hA
     refine S.val hA (R.lenS Try.underlying22 rfl rfl) rfl ?_; clear hA a; intro a hA
     refine S.val hA (R.lss rfl rfl) rfl ?_; clear hA a; intro a hA
     refine S.done ?_
     refine Ends.ite hA rfl (fun hc8 => ?_) (fun hc8 => ?_)
     ·
      have hrb := rk_le (rb := (rbo (ltq V U))) b (m : Int)
      refine Ends.skip (Ends.seq (Ends.block (Ends.seq ?_)))
      refine Ends.cut (fun (a : Act) (wv : World) => St 71 [(0, .slice av V.length cv), (1, .slice au U.length cu), (7, .slice (some ⟨b5, 0, none⟩) V.length V.length), (8, .int .i64 ((m : Int))), (9, .int .i64 (((rk (rbo (ltq V U)) b (m : Int) : Nat) : Int))), (10, .int .i64 ((b : Int))), (63, .bool (decide ((((b : Int)) ≠ ((m : Int)) ∧ ((btr V U b m)) = true))))] a ∧ Mem w nof [pt b5 ((ints out)) 3] wv) ?_ (fun k2 hJ => ?_)
      ·
       clear hA hM a; rintro a w7 ⟨hA, hM⟩
       refine Ends.ite hA rfl (fun hc9 => ?_) (fun hc9 => ?_)
       ·
        refine Ends.region ?_
        refine S.val hA (R.move rfl) rfl ?_; clear hA a; intro a hA
        refine S.val hA (R.addI rfl rfl (r := (((rk (rbo (ltq V U)) b (m : Int) : Nat) : Int)) + 1) rfl (by omega)) rfl ?_; clear hA a; intro a hA
        refine S.val hA (R.assign rfl) rfl ?_; clear hA a; intro a hA
        refine S.done ?_
        refine Ends.inBlock (Ends.region ?_)
        refine S.val hA (R.move rfl) rfl ?_; clear hA a; intro a hA
        refine S.val hA (R.addI rfl rfl (r := ((b : Int)) + 1) rfl (by omega)) rfl ?_; clear hA a; intro a hA
        refine S.val hA (R.assign rfl) rfl ?_; clear hA a; intro a hA
        refine S.done ?_
        replace hA : St 71 [(0, _), (1, _), (7, _), (8, _), (9, _), (10, _)] a := hA.sub ((.cons rfl (.cons rfl (.cons rfl (.cons rfl (.cons rfl (.cons rfl .nil)))))))
        have hrk := rk_succ (rb := (rbo (ltq V U))) b (m : Int)
        have hcond : (rbo (ltq V U)) (b : Int) (m : Int) = true := by rw [rbq_eq]; exact hc9.2
        rw [hcond] at hrk
        rw [show ((rk (rbo (ltq V U)) b (m : Int) : Nat) : Int) + 1 = ((rk (rbo (ltq V U)) (b + 1) (m : Int) : Nat) : Int) by rw [hrk]; simp] at hA
        exact hNext2 ((b + 1)) _ _ ((by show V.length - (b + 1) < V.length - b; omega)) ⟨hA.sub ((.cons rfl (.cons rfl (.cons rfl (.cons rfl (.cons rfl (.cons rfl .nil))))))), hM, (by omega)⟩
       ·
        refine Ends.skip (Ends.inBlock (Ends.region ?_))
        refine S.val hA (R.move rfl) rfl ?_; clear hA a; intro a hA
        refine S.val hA (R.addI rfl rfl (r := ((b : Int)) + 1) rfl (by omega)) rfl ?_; clear hA a; intro a hA
        refine S.val hA (R.assign rfl) rfl ?_; clear hA a; intro a hA
        refine S.done ?_
        have hrk := rk_succ (rb := (rbo (ltq V U))) b (m : Int)
        have hcond : (rbo (ltq V U)) (b : Int) (m : Int) = false := by
         rw [rbq_eq]
         by_cases hbm : b = m
         · rw [hbm]; exact btr_irr V U m
         ·
          have := hc9; cases hq : btr V U b m with
          | false => rfl
          | true => exact absurd ⟨by omega, hq⟩ this
        rw [hcond] at hrk
        rw [show ((rk (rbo (ltq V U)) b (m : Int) : Nat) : Int) = ((rk (rbo (ltq V U)) (b + 1) (m : Int) : Nat) : Int) by rw [hrk]; simp] at hA
        exact hNext2 ((b + 1)) _ _ ((by show V.length - (b + 1) < V.length - b; omega)) ⟨hA.sub ((.cons rfl (.cons rfl (.cons rfl (.cons rfl (.cons rfl (.cons rfl .nil))))))), hM, (by omega)⟩
      ·
       refine Ends.region ?_
       refine S.val hA (R.move rfl) rfl ?_; clear hA a; intro a hA
       refine S.val hA (R.move rfl) rfl ?_; clear hA a; intro a hA
       refine S.val hA (R.neq rfl rfl) rfl ?_; clear hA a; intro a hA
       refine S.val hA (R.move rfl) rfl ?_; clear hA a; intro a hA
       refine hA.split (d := 57) rfl ?_ ?_
       ·
        clear hA; intro hg10 hA
        refine S.valg (dj := 57) hA (by kernel_rfl) rfl (R.move rfl) rfl ?_; clear hA a; intro a hA
        refine S.valg (dj := 57) hA (by kernel_rfl) rfl (R.move rfl) rfl ?_; clear hA a; intro a hA
        refine S.valg (dj := 57) hA (by kernel_rfl) rfl (R.move rfl) rfl ?_; clear hA a; intro a hA
        refine S.valg (dj := 57) hA (by kernel_rfl) rfl (R.move rfl) rfl ?_; clear hA a; intro a hA
        refine S.callg (dj := 57) hA (by kernel_rfl) rfl (R.callF Try.func72 rfl rfl rfl) rfl (better09 av V cv au U cu b m (by omega) (by omega) hbv hbu _ (hv.mem hM) (hu.mem hM)) ?_; clear hA a
        rintro e w8 ⟨rfl, hb⟩
        replace hM := hM.callB hb; clear hb
        refine ⟨.bool ((btr V U b m)), rfl, fun a hA => ?_⟩
        refine S.val hA (R.pickT rfl rfl) rfl ?_; clear hA a; intro a hA
        refine S.done ?_
        replace hA : St 71 [(0, _), (1, _), (7, _), (8, _), (9, _), (10, _), (63, _)] a := hA.sub ((.cons rfl (.cons rfl (.cons rfl (.cons rfl (.cons rfl (.cons rfl (.cons rfl .nil))))))))
        exact hJ _ _ ⟨hA.sub (.cons rfl (.cons rfl (.cons rfl (.cons rfl (.cons rfl (.cons rfl (.cons (by first | rfl | exact congrArg (fun b => some (Value.bool b)) (by first | exact decide_eq_decide.2 (by omega) | exact or_bool (by omega) | exact and_bool (by omega) | (simp; done) | (simp [hg10]; done) | (have h80 := hg10; (try simp at h80); simp [h80]; done) | exact (decide_eq_false (fun h9 => hg10 h9.1)).symm)) .nil))))))), hM⟩
       ·
        clear hA; intro hg10 hA
        refine S.no (dj := 57) hA (by kernel_rfl) rfl rfl rfl ?_; clear hA a; intro a hA
        refine S.no (dj := 57) hA (by kernel_rfl) rfl rfl rfl ?_; clear hA a; intro a hA
        refine S.no (dj := 57) hA (by kernel_rfl) rfl rfl rfl ?_; clear hA a; intro a hA
        refine S.no (dj := 57) hA (by kernel_rfl) rfl rfl rfl ?_; clear hA a; intro a hA
        refine S.no (dj := 57) hA (by kernel_rfl) rfl rfl rfl ?_; clear hA a; intro a hA
        refine S.val hA (R.pickF rfl rfl) rfl ?_; clear hA a; intro a hA
        refine S.done ?_
        replace hA : St 71 [(0, _), (1, _), (7, _), (8, _), (9, _), (10, _), (63, _)] a := hA.sub ((.cons rfl (.cons rfl (.cons rfl (.cons rfl (.cons rfl (.cons rfl (.cons rfl .nil))))))))
        exact hJ _ _ ⟨hA.sub (.cons rfl (.cons rfl (.cons rfl (.cons rfl (.cons rfl (.cons rfl (.cons (by first | rfl | exact congrArg (fun b => some (Value.bool b)) (by first | exact decide_eq_decide.2 (by omega) | exact or_bool (by omega) | exact and_bool (by omega) | (simp; done) | (simp [hg10]; done) | (have h80 := hg10; (try simp at h80); simp [h80]; done) | exact (decide_eq_false (fun h9 => hg10 h9.1)).symm)) .nil))))))), hM⟩
     ·
      obtain rfl : b = V.length := by omega
      have hlt : rk (rbo (ltq V U)) V.length (m : Int) < V.length := laid_lt (byQ_perm V U) (byQ_pw V U hnu0) (rbq_irr V U) (fun a b _ _ => rbq_asym V U a b) (by omega)
      refine Ends.exit rfl ?_
      refine Ends.region ?_
      refine S.val hA (R.move rfl) rfl ?_; clear hA a; intro a hA
      refine S.val hA (R.move rfl) rfl ?_; clear hA a; intro a hA
      refine S.val hA (R.move rfl) rfl ?_; clear hA a; intro a hA
      refine S.val hA (R.indexAddr (q := (rk (rbo (ltq V U)) V.length (m : Int))) sl22 rfl rfl (by omega) (by omega)) rfl ?_; clear hA a; intro a hA
      refine S.store (k := 0) hA hM sz3 rfl rfl rfl rfl (ints_getD out _ (by omega)) ?_; clear hM
      intro w9 hM
      rw [ints_set] at hM
      replace hM : Mem _ _ [pt b5 ((ints (out.set ((rk (rbo (ltq V U)) V.length (m : Int))) ((m : Int))))) 3] _ := hM
      refine S.done ?_
      replace hA : St 71 [(0, _), (1, _), (7, _), (8, _)] a := hA.sub ((.cons rfl (.cons rfl (.cons rfl (.cons rfl .nil)))))
      refine Ends.inBlock (Ends.region ?_)
      refine S.val hA (R.move rfl) rfl ?_; clear hA a; intro a hA
      refine S.val hA (R.addI rfl rfl (r := ((m : Int)) + 1) rfl (by omega)) rfl ?_; clear hA a; intro a hA
      refine S.val hA (R.assign rfl) rfl ?_; clear hA a; intro a hA
      refine S.done ?_
      exact hNext1 ((m + 1, (out.set ((rk (rbo (ltq V U)) V.length (m : Int))) ((m : Int))))) _ _ ((by show V.length - (m + 1) < V.length - m; omega)) ⟨hA.sub ((.cons rfl (.cons rfl (.cons rfl (.cons rfl .nil))))), hM, (by omega), (laid_succ (byQ_perm V U) (byQ_pw V U hnu0) (rbq_irr V U) (fun a b _ _ => rbq_asym V U a b) (by omega) hld)⟩
    ·
     obtain rfl : m = V.length := by omega
     refine Ends.exit rfl ?_
     replace hA : St 71 [(7, _)] a := hA.sub ((.cons rfl .nil))
     refine Ends.seq (Ends.region ?_)
     refine S.val hA (R.move rfl) rfl ?_; clear hA a; intro a hA
     refine S.val hA (R.assign rfl) rfl ?_; clear hA a; intro a hA
     refine S.val hA (R.assign rfl) rfl ?_; clear hA a; intro a hA
     refine S.done ?_
     refine Ends.ret2 Try.func65 Try.results65 hA rfl rfl ?_
     have hol := hld.1
     have hr := hM.ptRs (k := 0) rfl (by omega)
     have hf9 := hM.ptFresh (k := 0) rfl (o := 0)
     have he := laid_end (byQ_perm V U) hld
     rw [he] at hr hol
     rw [hol] at hr
     rw [show qL V U = byQ V U from if_neg hnb, show qE V U = 0 from if_neg hnb]
     exact ⟨_, _, by rw [hol], by rw [hol]; exact hr, hf9, Mem.trans0 hbs hM.nilL⟩
 ·
  refine Ends.region ?_
  refine S.val hA (R.move rfl) rfl ?_; clear hA a; intro a hA
  refine S.val hA (R.lenS Try.underlying22 rfl rfl) rfl ?_; clear hA a; intro a hA
  refine S.val hA (R.move rfl) rfl ?_; clear hA a; intro a hA
  refine S.val hA (R.lenS Try.underlying22 rfl rfl) rfl ?_; clear hA a; intro a hA
  refine S.val hA (R.neq rfl rfl) rfl ?_; clear hA a; intro a hA
  refine S.val hA (R.move rfl) rfl ?_; clear hA a; intro a hA
  refine hA.split (d := 16) rfl ?_ ?_
  ·
   clear hA; intro hg11 hA
   refine S.no (dj := 16) hA (by kernel_rfl) rfl rfl rfl ?_; clear hA a; intro a hA
   refine S.no (dj := 16) hA (by kernel_rfl) rfl rfl rfl ?_; clear hA a; intro a hA
   refine S.no (dj := 16) hA (by kernel_rfl) rfl rfl rfl ?_; clear hA a; intro a hA
   refine S.val hA (R.pickT rfl rfl) rfl ?_; clear hA a; intro a hA
   refine S.done ?_
   replace hA : St 71 [(0, _), (1, _), (20, _)] a := hA.sub ((.cons rfl (.cons rfl (.cons rfl .nil))))
   exact hJ _ _ ⟨hA.sub (.cons rfl (.cons rfl (.cons (by first | rfl | exact congrArg (fun b => some (Value.bool b)) (by first | exact decide_eq_decide.2 (by omega) | exact or_bool (by omega) | exact and_bool (by omega) | (simp; done) | (simp [hg11]; done) | (have h80 := hg11; (try simp at h80); simp [h80]; done) | exact (decide_eq_false (fun h9 => hg11 h9.1)).symm)) .nil))), hM⟩
  ·
   clear hA; intro hg11 hA
   refine S.valg (dj := 16) hA (by kernel_rfl) rfl (R.move rfl) rfl ?_; clear hA a; intro a hA
   refine S.valg (dj := 16) hA (by kernel_rfl) rfl (R.lenS Try.underlying22 rfl rfl) rfl ?_; clear hA a; intro a hA
   refine S.valg (dj := 16) hA (by kernel_rfl) rfl (R.gtr rfl rfl) rfl ?_; clear hA a; intro a hA
   refine S.val hA (R.pickF rfl rfl) rfl ?_; clear hA a; intro a hA
   refine S.done ?_
   replace hA : St 71 [(0, _), (1, _), (20, _)] a := hA.sub ((.cons rfl (.cons rfl (.cons rfl .nil))))
   exact hJ _ _ ⟨hA.sub (.cons rfl (.cons rfl (.cons (by first | rfl | exact congrArg (fun b => some (Value.bool b)) (by first | exact decide_eq_decide.2 (by omega) | exact or_bool (by omega) | exact and_bool (by omega) | (simp; done) | (simp [hg11]; done) | (have h80 := hg11; (try simp at h80); simp [h80]; done) | exact (decide_eq_false (fun h9 => hg11 h9.1)).symm)) .nil))), hM⟩
end Go.Proofs.Ytnikajkklocncaa
namespace Go.Proofs.Ytnikajkklocncaa
def ScB (l : List UInt8) (T : List Tok) : Prop := ∀ r : List UInt8, Going (bs (l ++ r)) 0 [] l.length T
def okN (r : List UInt8) : Prop := kb (bs r) 0 ≠ 2 ∧ kb (bs r) 0 ≠ 3
def ScN (l : List UInt8) (T : List Tok) : Prop := ∀ r : List UInt8, okN r → Going (bs (l ++ r)) 0 [] l.length T
theorem ScB.nil : ScB [] [] := fun _ => Going.refl _ _ _
theorem kb_mid (l r : List UInt8) (j : Nat) : kb (bs (l ++ r)) (l.length + j) = kb (bs r) j := by
  rw [← bs_app, show l.length = (bs l).size from (bs_size l).symm, kb_r]
theorem kb_cons (c : UInt8) (r : List UInt8) : kb (bs (c :: r)) 0 = kindI (c.toNat : Int) := by
  rw [kb_in (by rw [bs_size]; simp), show bs (c :: r) = ⟨(c :: r).toArray⟩ from rfl, byt_mk (by simp)]; rfl
def blk1 (c : UInt8) : Prop := kindI (c.toNat : Int) = 1
theorem blk1_k {c : UInt8} (h : blk1 c) : kindI (c.toNat : Int) = 1 := h
theorem b10 : blk1 10 := by unfold blk1; decide
theorem okN_blk {c : UInt8} (h : blk1 c) (r : List UInt8) : okN (c :: r) := by unfold okN; rw [kb_cons, blk1_k h]; decide
theorem ScN.blank {l : List UInt8} {T : List Tok} {c : UInt8} (h : ScN l T) (hc : blk1 c) : ScB (l ++ [c]) T := fun r => by
  have h1 := h (c :: r) (okN_blk hc r)
  have e : (l ++ [c]) ++ r = l ++ (c :: r) := by simp
  rw [e, List.length_append]
  refine h1.trans (Going.blank (by rw [bs_size]; simp) ?_)
  have := kb_mid l (c :: r) 0
  rw [Nat.add_zero] at this
  rw [this, kb_cons, blk1_k hc]
structure Pc where
  b : List UInt8
  k : Int
  x : ByteArray
  n : Int
  s : UInt8
def pz : Pc := ⟨[], 0, ⟨#[]⟩, 0, 0⟩
def wdP (b : List UInt8) (s : UInt8) : Pc := ⟨b, 1, bs b, 0, s⟩
def nuP (n : Int) (s : UInt8) : Pc := ⟨Lib.itoa n, 2, ⟨#[]⟩, n, s⟩
end Go.Proofs.Ytnikajkklocncaa
namespace Go.Proofs.Ytnikajkklocncaa
section
variable {w0 w : World} {F : Nat → Prop} {L : List Ck} {e : TypeId} {b n : Nat} {l : List Value}
theorem Mem.eqL {L2 : List Ck} (h : Mem w0 F L w) (he : L = L2) : Mem w0 F L2 w := he ▸ h
end
open Go.RowKit
section
variable {w0 w : World} {F : Nat → Prop} {c1 c2 : Ck} {ib : Nat} {t eI eR : TypeId} {G0 G : Ins} {aw av ac : Option Addr} {cw cv cc : Nat} {rs : List OwR}
end
end Go.Proofs.Ytnikajkklocncaa
namespace Go.Proofs.Ytnikajkklocncaa
def wKN : ByteArray := ⟨#[75, 78, 65, 80, 83, 65, 67, 75]⟩
def wAS : ByteArray := ⟨#[65, 83, 83, 73, 71, 78, 77, 69, 78, 84]⟩
def wTS : ByteArray := ⟨#[84, 83, 80]⟩
def wFU : ByteArray := ⟨#[70, 85, 76, 76]⟩
theorem Toks.one {X : List Tok} (h : Toks X) {j : Nat} (hj : j < X.length) (k3 : ¬ (X.getD j tz).k = 3) {y : ByteArray} (hx : (X.getD j tz).x = y) (hy : y ≠ ⟨#[]⟩) : (X.getD j tz).k = 1 := by
  rcases h.kinds j hj with g | g | g
  · exact g
  · exact absurd (hx ▸ h.two j g) hy
  · exact absurd g k3
end Go.Proofs.Ytnikajkklocncaa
namespace Go.Proofs.Ytnikajkklocncaa
def rowP : List Int → List Pc
  | [] => []
  | [x] => [nuP x 10]
  | x :: y :: l => nuP x 32 :: rowP (y :: l)
theorem rowP_len : ∀ l, (rowP l).length = l.length
  | [] => rfl
  | [_] => rfl
  | x :: y :: l => by rw [rowP, List.length_cons, rowP_len]; rfl
theorem rowP_get : ∀ (l : List Int) (c : Nat), c < l.length → ((rowP l).getD c pz).k = 2 ∧ ((rowP l).getD c pz).n = l.getD c 0
  | [], _, h => absurd h (Nat.not_lt_zero _)
  | [x], 0, _ => ⟨rfl, rfl⟩
  | [x], c + 1, h => absurd h (by simp)
  | x :: y :: l, 0, _ => ⟨rfl, rfl⟩
  | x :: y :: l, c + 1, h => by
    rw [rowP, List.getD_cons_succ, List.getD_cons_succ]
    exact rowP_get (y :: l) c (by simp at h ⊢; omega)
def itmP (i : Ins) (k : Nat) : List Pc := rowP [i.wt.getD k 0, i.vl.getD k 0]
def rwsP (i : Ins) (r : Nat) : List Pc := rowP (i.cost.getD r [])
theorem flat_len {f : Nat → List Pc} {L : Nat} : ∀ {R : Nat}, (∀ r, r < R → (f r).length = L) → ((List.range R).flatMap f).length = R * L
  | 0, _ => by simp
  | R + 1, h => by
    rw [List.range_succ, List.flatMap_append, List.length_append, flat_len (R := R) (fun r hr => h r (by omega)), Nat.add_mul, Nat.one_mul]
    simp [h R (by omega)]
theorem flat_get {f : Nat → List Pc} {L r c : Nat} (hc : c < L) : ∀ {R : Nat}, (∀ r, r < R → (f r).length = L) → r < R → ((List.range R).flatMap f).getD (r * L + c) pz = (f r).getD c pz
  | 0, _, h => absurd h (Nat.not_lt_zero _)
  | R + 1, h, hr => by
    have hl := flat_len (f := f) (L := L) (R := R) (fun r hr => h r (by omega))
    rw [List.range_succ, List.flatMap_append]
    have e1 : [R].flatMap f = f R := by simp
    rw [e1]
    simp only [List.getD_eq_getElem?_getD]
    rcases Nat.lt_succ_iff_lt_or_eq.1 hr with g | g
    · have h1 : r * L + c < R * L := by
        have : (r + 1) * L ≤ R * L := Nat.mul_le_mul_right L g
        rw [Nat.add_mul, Nat.one_mul] at this; omega
      rw [List.getElem?_append_left (by omega)]
      have := flat_get (f := f) hc (R := R) (fun r hr => h r (by omega)) g
      simpa only [List.getD_eq_getElem?_getD] using this
    · subst g
      rw [List.getElem?_append_right (by omega), hl, Nat.add_sub_cancel_left]
def hdP (i : Ins) : List Pc :=
  if i.kind = 1 then [wdP [75, 78, 65, 80, 83, 65, 67, 75] 32, nuP i.n 32, nuP i.cap 10]
  else if i.kind = 2 then [wdP [65, 83, 83, 73, 71, 78, 77, 69, 78, 84] 32, nuP i.n 10] else [wdP [84, 83, 80] 32, nuP i.n 32, wdP [70, 85, 76, 76] 10]
def pcs (i : Ins) : List Pc := hdP i ++ if i.kind = 1 then (List.range i.n.toNat).flatMap (itmP i) else (List.range i.n.toNat).flatMap (rwsP i)
def j0I (i : Ins) : Nat := if i.kind = 3 then 3 else 2
def mI (i : Ins) : Nat := if i.kind = 1 then 1 + 2 * i.n.toNat else i.n.toNat * i.n.toNat
def vN (i : Ins) (q : Nat) : Int := if i.kind = 1 then (if q = 0 then i.cap else if q % 2 = 1 then i.wt.getD (q / 2) 0 else i.vl.getD (q / 2 - 1) 0) else (i.cost.getD (q / i.n.toNat) []).getD (q % i.n.toNat) 0
theorem getD_app2P {a b : List Pc} {j : Nat} : (a ++ b).getD (a.length + j) pz = b.getD j pz := by
  rw [List.getD_eq_getElem?_getD, List.getD_eq_getElem?_getD, List.getElem?_append_right (by omega), Nat.add_sub_cancel_left]
theorem pcs_num {i : Ins} (h : InF i) {q : Nat} (hq : q < mI i) : ((pcs i).getD (j0I i + q) pz).k = 2 ∧ ((pcs i).getD (j0I i + q) pz).n = vN i q := by
  have hk := h.kind
  have hc := h.cost
  have hn := h.n1
  unfold mI at hq
  by_cases h1 : i.kind = 1
  · rw [if_pos h1] at hq
    unfold pcs hdP j0I vN
    rw [if_pos h1, if_pos h1, if_neg (by omega), if_pos h1]
    by_cases h0 : q = 0
    · subst h0; exact ⟨rfl, rfl⟩
    · rw [if_neg h0]
      have e0 : 2 + q = [wdP [75, 78, 65, 80, 83, 65, 67, 75] 32, nuP i.n 32, nuP i.cap 10].length + (q - 1) := by show _ = 3 + (q - 1); omega
      rw [e0, getD_app2P]
      have hL : ∀ r, r < i.n.toNat → (itmP i r).length = 2 := fun r _ => by rw [itmP, rowP_len]; rfl
      by_cases h2 : q % 2 = 1
      · rw [if_pos h2, show q - 1 = (q / 2) * 2 + 0 by omega, flat_get (by decide) hL (by omega)]
        exact rowP_get _ 0 (by simp)
      · rw [if_neg h2, show q - 1 = (q / 2 - 1) * 2 + 1 by omega, flat_get (by decide) hL (by omega)]
        exact rowP_get _ 1 (by simp)
  · rw [if_neg h1] at hq hc
    have hn0 : 0 < i.n.toNat := by omega
    have hdm := Nat.div_add_mod' q i.n.toNat
    have hdl : q / i.n.toNat < i.n.toNat := Nat.div_lt_of_lt_mul hq
    have hml := Nat.mod_lt q hn0
    have hL : ∀ r, r < i.n.toNat → (rwsP i r).length = i.n.toNat := fun r hr => by rw [rwsP, rowP_len]; exact h.row r (by omega)
    have key : ∀ hd : List Pc, ((hd ++ (List.range i.n.toNat).flatMap (rwsP i)).getD (hd.length + q) pz).k = 2 ∧ ((hd ++ (List.range i.n.toNat).flatMap (rwsP i)).getD (hd.length + q) pz).n = vN i q := fun hd => by
      rw [getD_app2P]
      have e1 : ((List.range i.n.toNat).flatMap (rwsP i)).getD q pz = (rwsP i (q / i.n.toNat)).getD (q % i.n.toNat) pz := by
        have := flat_get (f := rwsP i) (r := q / i.n.toNat) hml hL hdl
        rwa [hdm] at this
      rw [e1]
      unfold vN; rw [if_neg h1]
      exact rowP_get _ _ (by rw [h.row _ (by omega)]; exact hml)
    unfold pcs hdP j0I
    rw [if_neg h1, if_neg h1]
    by_cases h2 : i.kind = 2
    · rw [if_pos h2, if_neg (by omega)]; exact key _
    · rw [if_neg h2, if_pos (by omega)]; exact key _
theorem vN_bd {i : Ins} (h : InF i) (q : Nat) : 0 ≤ vN i q ∧ vN i q ≤ 2147483647 := by
  unfold vN
  split
  · split
    · exact h.cap
    · split
      · exact h.wtr _
      · exact h.vlr _
  · exact h.cell _ _
def Hd (X : List Tok) (i : Ins) (m : Nat) : Prop := ∀ j, j < j0I i + m → (X.getD j tz).k = ((pcs i).getD j pz).k ∧ (X.getD j tz).x = ((pcs i).getD j pz).x ∧ (X.getD j tz).n = ((pcs i).getD j pz).n
theorem Hd.num {X : List Tok} {i : Ins} {m : Nat} (hH : Hd X i m) (h : InF i) (hm : m ≤ mI i) {q : Nat} (hq : q < m) : (X.getD (j0I i + q) tz).k = 2 ∧ (X.getD (j0I i + q) tz).n = vN i q := by
  obtain ⟨h1, -, h3⟩ := hH (j0I i + q) (by omega)
  obtain ⟨g1, g2⟩ := pcs_num h (q := q) (by omega)
  exact ⟨h1.trans g1, h3.trans g2⟩
theorem Hd.ok {X : List Tok} {i : Ins} {m : Nat} (hH : Hd X i m) (h : InF i) (hm : m ≤ mI i) {f : Nat → Bool} (hf : ∀ q, f q = true → q < mI i → vN i q = 0) : ∀ q, q < m → nuE (f q) (X.getD (j0I i + q) tz) = 0 := fun q hq => by
  obtain ⟨h1, h2⟩ := hH.num h hm hq
  have hb := vN_bd h q
  obtain ⟨g1, g2⟩ := numR_ok (t := X.getD (j0I i + q) tz) (m := 2147483647) (by omega) (by omega) (by omega)
  exact nuE_ok g1 (fun g => g.2 (by rw [g2, h2]; exact hf q g.1 (by omega)))
theorem Hd.head {X : List Tok} {i : Ins} {m : Nat} (hH : Hd X i m) (hj : j0I i ≤ j0I i + m) : (X.getD 0 tz).k = 1 ∧ (X.getD 1 tz).k = 2 ∧ (X.getD 1 tz).n = i.n ∧ (i.kind = 1 → (X.getD 0 tz).x = wKN) ∧ (i.kind = 2 → (X.getD 0 tz).x = wAS) ∧ (¬ i.kind = 1 → ¬ i.kind = 2 → (X.getD 0 tz).x = wTS) ∧ (i.kind = 3 → (X.getD 2 tz).k = 1 ∧ (X.getD 2 tz).x = wFU) := by
  have hj2 : 2 ≤ j0I i := by unfold j0I; split <;> omega
  obtain ⟨a1, a2, a3⟩ := hH 0 (by omega)
  obtain ⟨b1, b2, b3⟩ := hH 1 (by omega)
  rw [a1, a2, b1, b3]
  unfold pcs hdP
  by_cases h1 : i.kind = 1
  · rw [if_pos h1]; exact ⟨rfl, rfl, rfl, fun _ => rfl, fun h => absurd h (by omega), fun h => absurd h1 h, fun h => absurd h (by omega)⟩
  · rw [if_neg h1]
    by_cases h2 : i.kind = 2
    · rw [if_pos h2]; exact ⟨rfl, rfl, rfl, fun h => absurd h h1, fun _ => rfl, fun _ h => absurd h2 h, fun h => absurd h (by omega)⟩
    · rw [if_neg h2]
      refine ⟨rfl, rfl, rfl, fun h => absurd h h1, fun h => absurd h h2, fun _ _ => rfl, fun h3 => ?_⟩
      obtain ⟨c1, c2, -⟩ := hH 2 (by unfold j0I; rw [if_pos h3]; omega)
      rw [c1, c2]
      unfold pcs hdP
      rw [if_neg h1, if_neg h2]
      exact ⟨rfl, rfl⟩
end Go.Proofs.Ytnikajkklocncaa
namespace Go.Proofs.Ytnikajkklocncaa
def flS (i : Ins) (l : List Int) : Nat → List Int × Int × Int
  | 0 => (List.replicate i.n.toNat 0, i.cap, 0)
  | m + 1 => if i.wt.getD (l.getD m 0).toNat 0 ≤ (flS i l m).2.1 then ((flS i l m).1.set (l.getD m 0).toNat 1, (flS i l m).2.1 - i.wt.getD (l.getD m 0).toNat 0, (flS i l m).2.2 + i.vl.getD (l.getD m 0).toNat 0) else flS i l m
theorem flS_take {i : Ins} {l : List Int} {m : Nat} (h : i.wt.getD (l.getD m 0).toNat 0 ≤ (flS i l m).2.1) : flS i l (m + 1) = ((flS i l m).1.set (l.getD m 0).toNat 1, (flS i l m).2.1 - i.wt.getD (l.getD m 0).toNat 0, (flS i l m).2.2 + i.vl.getD (l.getD m 0).toNat 0) := if_pos h
theorem flS_leave {i : Ins} {l : List Int} {m : Nat} (h : ¬ i.wt.getD (l.getD m 0).toNat 0 ≤ (flS i l m).2.1) : flS i l (m + 1) = flS i l m := if_neg h
theorem flS_len (i : Ins) (l : List Int) : ∀ m, (flS i l m).1.length = i.n.toNat
  | 0 => List.length_replicate
  | m + 1 => by
    by_cases h : i.wt.getD (l.getD m 0).toNat 0 ≤ (flS i l m).2.1
    · rw [flS_take h]; exact List.length_set.trans (flS_len i l m)
    · rw [flS_leave h]; exact flS_len i l m
theorem flS_room {i : Ins} (hF : InF i) (l : List Int) : ∀ m, 0 ≤ (flS i l m).2.1 ∧ (flS i l m).2.1 ≤ i.cap
  | 0 => ⟨hF.cap.1, Int.le_refl _⟩
  | m + 1 => by
    have ih := flS_room hF l m
    have hw := hF.wtr (l.getD m 0).toNat
    by_cases h : i.wt.getD (l.getD m 0).toNat 0 ≤ (flS i l m).2.1
    · rw [flS_take h]; simp only; omega
    · rw [flS_leave h]; exact ih
theorem flS_worth {i : Ins} (hF : InF i) (l : List Int) : ∀ m, 0 ≤ (flS i l m).2.2 ∧ (flS i l m).2.2 ≤ m * 2147483647
  | 0 => ⟨Int.le_refl _, Int.le_refl _⟩
  | m + 1 => by
    have ih := flS_worth hF l m
    have hw := hF.vlr (l.getD m 0).toNat
    by_cases h : i.wt.getD (l.getD m 0).toNat 0 ≤ (flS i l m).2.1
    · rw [flS_take h]; simp only; omega
    · rw [flS_leave h]; omega
def alI (i : Ins) : Nat → Int
  | 0 => -1
  | k + 1 => if i.wt.getD k 0 ≤ i.cap ∧ (alI i k < 0 ∨ i.vl.getD (alI i k).toNat 0 < i.vl.getD k 0) then (k : Int) else alI i k
theorem alI_bd (i : Ins) : ∀ k, -1 ≤ alI i k ∧ alI i k < k
  | 0 => by simp [alI]
  | k + 1 => by
    have ih := alI_bd i k
    unfold alI
    split <;> omega
theorem alI_wt (i : Ins) : ∀ k, 0 ≤ alI i k → i.wt.getD (alI i k).toNat 0 ≤ i.cap
  | 0 => fun h => absurd h (by simp [alI])
  | k + 1 => fun h => by
    unfold alI at h ⊢
    split at h
    · rename_i g; rw [if_pos g, Int.toNat_natCast]; exact g.1
    · rename_i g; rw [if_neg g]; exact alI_wt i k h
def knS (i : Ins) : List Int := if 0 ≤ alI i i.n.toNat ∧ (flS i (byQ i.vl i.wt) i.n.toNat).2.2 < i.vl.getD (alI i i.n.toNat).toNat 0 then (List.replicate i.n.toNat 0).set (alI i i.n.toNat).toNat 1 else (flS i (byQ i.vl i.wt) i.n.toNat).1
theorem getDS (x : List Int) (k q : Nat) (v : Int) : (x.set k v).getD q 0 = if k = q ∧ q < x.length then v else x.getD q 0 := by
  rw [List.getD_eq_getElem?_getD, List.getElem?_set, List.getD_eq_getElem?_getD]
  by_cases h : k = q
  · subst h
    by_cases g : k < x.length
    · simp [g]
    · simp [g, List.getElem?_eq_none (Nat.le_of_not_lt g)]
  · simp [h]
theorem sumF_upd {f g : Nat → Int} {k : Nat} (hf : f k = 0) (h : ∀ q, q ≠ k → g q = f q) : ∀ n, sumF g n = sumF f n + if k < n then g k else 0
  | 0 => by simp [sumF]
  | n + 1 => by
    rw [sumF, sumF, sumF_upd hf h n]
    rcases Nat.lt_trichotomy k n with e | e | e
    · rw [if_pos e, if_pos (by omega), h n (by omega)]; omega
    · subst e; rw [if_neg (Nat.lt_irrefl _), if_pos (Nat.lt_succ_self _), hf]
    · rw [if_neg (by omega), if_neg (by omega), h n (by omega)]; omega
theorem wt_set {i : Ins} {x : List Int} {k n : Nat} (hk : k < n) (hx : x.length = n) (h0 : x.getD k 0 = 0) : sumF (wtF i (x.set k 1)) n = sumF (wtF i x) n + i.wt.getD k 0 := by
  have e1 : ∀ q, q ≠ k → wtF i (x.set k 1) q = wtF i x q := fun q hq => by
    have e9 : (x.set k 1).getD q 0 = x.getD q 0 := by rw [getDS, if_neg (fun e => hq e.1.symm)]
    unfold wtF; rw [e9]
  have e2 : wtF i (x.set k 1) k = i.wt.getD k 0 := by
    have e9 : (x.set k 1).getD k 0 = 1 := by rw [getDS, if_pos ⟨rfl, by omega⟩]
    unfold wtF; rw [e9, if_pos rfl]
  rw [sumF_upd (f := wtF i x) (g := wtF i (x.set k 1)) (k := k) (by unfold wtF; rw [h0, if_neg (by decide)]) e1 n, if_pos hk, e2]
theorem rep0_get (n q : Nat) : (List.replicate n (0 : Int)).getD q 0 = 0 := by
  rw [List.getD_eq_getElem?_getD, List.getElem?_replicate]; split <;> rfl
theorem wt_rep (i : Ins) (m : Nat) : ∀ n, sumF (wtF i (List.replicate m 0)) n = 0
  | 0 => rfl
  | n + 1 => by rw [sumF, wt_rep i m n]; unfold wtF; rw [rep0_get, if_neg (by decide)]; rfl
theorem byQ_at {v w : List Int} {m : Nat} (h : m < v.length) : 0 ≤ (byQ v w).getD m 0 ∧ (byQ v w).getD m 0 < v.length := by
  have hl : m < (byQ v w).length := by rw [byQ_len]; exact h
  have e : (byQ v w).getD m 0 = (byQ v w)[m] := by simp [List.getD, hl]
  rw [e]
  exact mem_pl.1 ((byQ_perm v w).mem_iff.1 (List.getElem_mem hl))
theorem flS_ok {i : Ins} {l : List Int} (hnd : l.Nodup) (hin : ∀ m, m < l.length → 0 ≤ l.getD m 0 ∧ l.getD m 0 < (i.n.toNat : Int)) : ∀ m, m ≤ l.length → bitP (flS i l m).1 i.n.toNat ∧ (∀ q : Nat, (flS i l m).1.getD q 0 = 1 → (q : Int) ∈ l.take m) ∧ sumF (wtF i (flS i l m).1) i.n.toNat + (flS i l m).2.1 = i.cap
  | 0 => fun _ => ⟨fun q _ => .inl (rep0_get _ q), fun q h => (by have : (List.replicate i.n.toNat (0 : Int)).getD q 0 = 1 := h; rw [rep0_get] at this; cases this), by show sumF (wtF i (List.replicate i.n.toNat 0)) _ + i.cap = i.cap; rw [wt_rep]; omega⟩
  | m + 1 => fun hm => by
    obtain ⟨h1, h2, h3⟩ := flS_ok hnd hin m (by omega)
    have hlen := flS_len i l m
    have hat := hin m (by omega)
    have htk : l.take (m + 1) = l.take m ++ [l.getD m 0] := by
      rw [List.take_succ_eq_append_getElem (by omega)]; congr 2; simp [List.getD, show m < l.length by omega]
    have hni : l.getD m 0 ∉ l.take m := by
      have h4 : (l.take (m + 1)).Nodup := hnd.sublist (List.take_sublist _ _)
      rw [htk, List.nodup_append] at h4
      exact fun g => h4.2.2 _ g _ (List.mem_singleton.2 rfl) rfl
    rw [htk]
    obtain ⟨k, hk⟩ : ∃ k : Nat, l.getD m 0 = k := ⟨(l.getD m 0).toNat, by omega⟩
    by_cases h : i.wt.getD (l.getD m 0).toNat 0 ≤ (flS i l m).2.1
    · rw [flS_take h, hk, Int.toNat_natCast]; simp only
      rw [hk] at hni h
      rw [Int.toNat_natCast] at h
      have h0 : (flS i l m).1.getD k 0 = 0 := by
        rcases h1 k (by omega) with g | g
        · exact g
        · exact absurd (h2 k g) hni
      refine ⟨fun q hq => ?_, fun q hq => ?_, ?_⟩
      · rw [getDS]; split
        · exact .inr rfl
        · exact h1 q hq
      · rw [getDS] at hq; split at hq
        · rename_i e; rw [← e.1]; exact List.mem_append_right _ (List.mem_singleton.2 rfl)
        · exact List.mem_append_left _ (h2 q hq)
      · rw [wt_set (by omega) hlen h0]; omega
    · rw [flS_leave h]; exact ⟨h1, fun q hq => List.mem_append_left _ (h2 q hq), h3⟩
theorem byQ_nodup (v w : List Int) : (byQ v w).Nodup := (byQ_perm _ _).nodup_iff.2 (pl_nodup _)
theorem knS_len (i : Ins) : (knS i).length = i.n.toNat := by
  unfold knS; split
  · rw [List.length_set]; exact List.length_replicate
  · exact flS_len _ _ _
theorem knS_ok {i : Ins} (hF : InF i) (hk : i.kind = 1) : (knpI i (knS i)).2 = 0 := by
  have hv := hF.vl
  rw [if_pos hk] at hv
  have hn := hF.n1
  have hl := knS_len i
  suffices h : bitP (knS i) i.n.toNat ∧ sumF (wtF i (knS i)) i.n.toNat ≤ i.cap by
    unfold knpI
    rw [hl, if_neg (not_not_intro (show ((i.n.toNat : Nat) : Int) = i.n by omega)), if_neg (not_not_intro h.1), if_neg (by omega)]
  have hal := alI_bd i i.n.toNat
  have haw := alI_wt i i.n.toNat
  unfold knS
  split
  · rename_i g
    obtain ⟨k, hk'⟩ : ∃ k : Nat, alI i i.n.toNat = k := ⟨(alI i i.n.toNat).toNat, by omega⟩
    have haw := haw g.1
    rw [hk', Int.toNat_natCast] at haw ⊢
    refine ⟨fun q hq => ?_, ?_⟩
    · rw [getDS]; split
      · exact .inr rfl
      · exact .inl (rep0_get _ q)
    · rw [wt_set (by omega) List.length_replicate (rep0_get _ _), wt_rep]; omega
  · have h1 := flS_ok (i := i) (l := byQ i.vl i.wt) (byQ_nodup _ _) (fun m hm => by rw [byQ_len] at hm; have := byQ_at (v := i.vl) (w := i.wt) hm; omega) i.n.toNat (by rw [byQ_len]; omega)
    have h2 := flS_room hF (byQ i.vl i.wt) i.n.toNat
    exact ⟨h1.1, by omega⟩
def chI (row x : List Int) : Nat → Int
  | 0 => -1
  | c + 1 => if ¬ ((c : Int) ∈ x) ∧ (chI row x c < 0 ∨ row.getD c 0 < row.getD (chI row x c).toNat 0) then (c : Int) else chI row x c
theorem chI_bd (row x : List Int) : ∀ c, -1 ≤ chI row x c ∧ chI row x c < c
  | 0 => by simp [chI]
  | c + 1 => by
    have ih := chI_bd row x c
    unfold chI
    split <;> omega
theorem chI_free (row x : List Int) : ∀ c, 0 ≤ chI row x c → ¬ chI row x c ∈ x
  | 0 => fun h => absurd h (by simp [chI])
  | c + 1 => fun h => by
    unfold chI at h ⊢
    split at h
    · rename_i g; rw [if_pos g]; exact g.1
    · rename_i g; rw [if_neg g]; exact chI_free row x c h
theorem chI_pos (row x : List Int) : ∀ c, (∃ q : Nat, q < c ∧ ¬ (q : Int) ∈ x) → 0 ≤ chI row x c
  | 0 => fun ⟨q, hq, _⟩ => absurd hq (Nat.not_lt_zero _)
  | c + 1 => fun ⟨q, hq, hx⟩ => by
    unfold chI
    split
    · omega
    · rename_i g
      refine Classical.byContradiction fun h0 => ?_
      rcases Nat.lt_succ_iff_lt_or_eq.1 hq with e | e
      · exact h0 (chI_pos row x c ⟨q, e, hx⟩)
      · subst e; exact g ⟨hx, .inl (by omega)⟩
def rowOf (i : Ins) (x : List Int) : List Int := i.cost.getD (if i.kind = 3 then (x.getD (x.length - 1) 0).toNat else x.length) []
def rwA (i : Ins) : Nat → List Int
  | 0 => if i.kind = 3 then [0] else []
  | m + 1 => rwA i m ++ [chI (rowOf i (rwA i m)) (rwA i m) i.n.toNat]
def frm (i : Ins) : Nat := if i.kind = 3 then 1 else 0
theorem frm_le (i : Ins) : frm i ≤ 1 := by unfold frm; split <;> omega
theorem rwA_len (i : Ins) : ∀ m, (rwA i m).length = frm i + m
  | 0 => by unfold rwA frm; split <;> rfl
  | m + 1 => by rw [rwA, List.length_append, rwA_len i m]; rfl
theorem free_col {x : List Int} {n : Nat} (hl : x.length < n) : ∃ q : Nat, q < n ∧ ¬ (q : Int) ∈ x := by
  refine Classical.byContradiction fun h => ?_
  have hs : pl n ⊆ x := fun y hy => by
    have h1 := mem_pl.1 hy
    refine Classical.byContradiction fun g => h ⟨y.toNat, by omega, ?_⟩
    rwa [Int.toNat_of_nonneg h1.1]
  have := (perm_of_nodup (pl_nodup n) hs (by rw [pl_len]; omega)).length_eq
  rw [pl_len] at this
  omega
def inc (n : Nat) (x : List Int) : Prop := x.Nodup ∧ ∀ y ∈ x, 0 ≤ y ∧ y < (n : Int)
theorem rwA_inc {i : Ins} (hn : 1 ≤ i.n.toNat) : ∀ m, frm i + m ≤ i.n.toNat → inc i.n.toNat (rwA i m) ∧ (i.kind = 3 → (rwA i m).getD 0 0 = 0)
  | 0 => fun _ => by
    unfold rwA inc
    split
    · refine ⟨⟨by simp, fun y hy => ?_⟩, fun _ => rfl⟩
      rw [List.mem_singleton.1 hy]; omega
    · exact ⟨⟨List.nodup_nil, fun y hy => absurd hy (by simp)⟩, fun _ => rfl⟩
  | m + 1 => fun hm => by
    obtain ⟨⟨h1, h2⟩, h3⟩ := rwA_inc hn m (by omega)
    have hl := rwA_len i m
    have hp := chI_pos (rowOf i (rwA i m)) (rwA i m) i.n.toNat (free_col (by omega))
    have hf := chI_free (rowOf i (rwA i m)) (rwA i m) i.n.toNat hp
    have hb := chI_bd (rowOf i (rwA i m)) (rwA i m) i.n.toNat
    rw [rwA]
    refine ⟨⟨List.nodup_append.2 ⟨h1, by simp, fun a ha b hb' e => ?_⟩, fun y hy => ?_⟩, fun h => ?_⟩
    · rw [List.mem_singleton.1 hb'] at e; exact hf (e ▸ ha)
    · rcases List.mem_append.1 hy with g | g
      · exact h2 y g
      · rw [List.mem_singleton.1 g]; omega
    · have h4 := h3 h
      have h5 : 0 < (rwA i m).length := by rw [hl]; unfold frm; rw [if_pos h]; omega
      rw [List.getD_eq_getElem?_getD, List.getElem?_append_left h5, ← List.getD_eq_getElem?_getD]; exact h4
theorem inc_perm {n : Nat} {x : List Int} (hn : n ≤ 128) (h : inc n x) (hl : x.length = n) : permP x n := by
  have hp : x.Perm (pl n) := perm_of_nodup h.1 (fun y hy => mem_pl.2 (h.2 y hy)) (by rw [pl_len]; omega)
  exact perm_of (rng_perm hn) hp
theorem rwA_ord {i : Ins} (hF : InF i) : ordP i (rwA i (i.n.toNat - frm i)) := by
  have h1 := hF.n1
  have h2 := hF.n64
  have h3 := frm_le i
  obtain ⟨h4, h5⟩ := rwA_inc (i := i) (by omega) (i.n.toNat - frm i) (by omega)
  exact ⟨inc_perm (by omega) h4 (by rw [rwA_len]; omega), h5⟩
def rvS (x : List Int) (a b : Nat) : List Int := (List.range x.length).map fun q => if a ≤ q ∧ q ≤ b then x.getD (a + b - q) 0 else x.getD q 0
def chg (i : Ins) (x : List Int) (a b : Nat) : List Int := if i.kind = 3 then rvS x a b else (x.set a (x.getD b 0)).set b (x.getD a 0)
theorem chg_len (i : Ins) (x : List Int) (a b : Nat) : (chg i x a b).length = x.length := by
  unfold chg rvS; split
  · simp
  · simp
abbrev BS3 := List Int × Int × Bool
end Go.Proofs.Ytnikajkklocncaa
namespace Go.Proofs.Ytnikajkklocncaa
section
variable (C : List Int → Int × Int) (i : Ins)
def tr1 (s : BS3) (a b : Nat) : BS3 := if (C (chg i s.1 a b)).2 = 0 ∧ (C (chg i s.1 a b)).1 < s.2.1 then (chg i s.1 a b, (C (chg i s.1 a b)).1, true) else s
def innB (s : BS3) (a : Nat) : Nat → BS3
  | 0 => s
  | m + 1 => tr1 C i (innB s a m) a (a + 1 + m)
def othB (s : BS3) : Nat → BS3
  | 0 => (s.1, s.2.1, false)
  | m + 1 => innB C i (othB s m) (frm i + m) (i.n.toNat - 1 - (frm i + m))
def rndB (s : BS3) : BS3 := othB C i s (i.n.toNat - frm i)
def rndsB (s : BS3) : Nat → BS3
  | 0 => s
  | r + 1 => if (rndsB s r).2.2 = true then rndB C i (rndsB s r) else rndsB s r
def betB (x : List Int) : List Int := (rndsB C i (x, (C x).1, true) 50).1
variable {C : List Int → Int × Int} {i : Ins}
theorem tr1_yes {s : BS3} {a b : Nat} (h : (C (chg i s.1 a b)).2 = 0 ∧ (C (chg i s.1 a b)).1 < s.2.1) : tr1 C i s a b = (chg i s.1 a b, (C (chg i s.1 a b)).1, true) := if_pos h
theorem tr1_no {s : BS3} {a b : Nat} (h : ¬ ((C (chg i s.1 a b)).2 = 0 ∧ (C (chg i s.1 a b)).1 < s.2.1)) : tr1 C i s a b = s := if_neg h
def okB (C : List Int → Int × Int) (n : Nat) (c : Int) (s : BS3) : Prop := s.1.length = n ∧ C s.1 = (s.2.1, 0) ∧ s.2.1 ≤ c
theorem tr1_ok {s : BS3} {a b n : Nat} {c : Int} (h : okB C n c s) : okB C n c (tr1 C i s a b) := by
  obtain ⟨h1, h2, h3⟩ := h
  by_cases g : (C (chg i s.1 a b)).2 = 0 ∧ (C (chg i s.1 a b)).1 < s.2.1
  · rw [tr1_yes g]; exact ⟨by rw [chg_len]; exact h1, Prod.ext rfl g.1, by show (C (chg i s.1 a b)).1 ≤ c; omega⟩
  · rw [tr1_no g]; exact ⟨h1, h2, h3⟩
theorem innB_ok {s : BS3} {a n : Nat} {c : Int} (h : okB C n c s) : ∀ m, okB C n c (innB C i s a m)
  | 0 => h
  | m + 1 => tr1_ok (innB_ok h m)
theorem othB_ok {s : BS3} {n : Nat} {c : Int} (h : okB C n c s) : ∀ m, okB C n c (othB C i s m)
  | 0 => h
  | m + 1 => innB_ok (othB_ok h m) _
theorem rndB_ok {s : BS3} {n : Nat} {c : Int} (h : okB C n c s) : okB C n c (rndB C i s) := othB_ok h _
theorem rndsB_ok {s : BS3} {n : Nat} {c : Int} (h : okB C n c s) : ∀ r, okB C n c (rndsB C i s r)
  | 0 => h
  | r + 1 => by
    unfold rndsB; split
    · exact rndB_ok (rndsB_ok h r)
    · exact rndsB_ok h r
theorem rnds_go {s : BS3} {r : Nat} (h : (rndsB C i s r).2.2 = true) : rndsB C i s (r + 1) = rndB C i (rndsB C i s r) := if_pos h
theorem rnds_stop {s : BS3} {r : Nat} (h : ¬ (rndsB C i s r).2.2 = true) : ∀ d, rndsB C i s (r + d) = rndsB C i s r
  | 0 => rfl
  | d + 1 => by
    rw [← Nat.add_assoc, rndsB, rnds_stop h d, if_neg h]
theorem rndsB_fin {x : List Int} {n : Nat} (hl : x.length = n) (h : (C x).2 = 0) (r : Nat) : (rndsB C i (x, (C x).1, true) r).1.length = n ∧ (C (rndsB C i (x, (C x).1, true) r).1).2 = 0 ∧ (C (rndsB C i (x, (C x).1, true) r).1).1 ≤ (C x).1 := by
  have h0 := rndsB_ok (i := i) (s := (x, (C x).1, true)) (n := n) (c := (C x).1) ⟨hl, Prod.ext rfl h, Int.le_refl _⟩ r
  generalize rndsB C i (x, (C x).1, true) r = t at h0 ⊢
  obtain ⟨h1, h2, h3⟩ := h0
  rw [h2]
  exact ⟨h1, rfl, h3⟩
theorem betB_ok {x : List Int} {n : Nat} (hl : x.length = n) (h : (C x).2 = 0) : (betB C i x).length = n ∧ (C (betB C i x)).2 = 0 ∧ (C (betB C i x)).1 ≤ (C x).1 := rndsB_fin hl h 50
theorem rnds_all {s : BS3} {r : Nat} (h : r = 50 ∨ ¬ (rndsB C i s r).2.2 = true) (hr : r ≤ 50) : rndsB C i s r = rndsB C i s 50 := by
  rcases h with h | h
  · rw [h]
  · have := rnds_stop h (50 - r)
    rw [show r + (50 - r) = 50 by omega] at this
    exact this.symm
end
theorem ext0 {x y : List Int} (hl : x.length = y.length) (h : ∀ q, q < x.length → x.getD q 0 = y.getD q 0) : x = y := by
  refine List.ext_getElem hl fun q h1 h2 => ?_
  have := h q h1
  simpa [List.getD, h1, h2] using this
theorem rvS_get {x : List Int} {a b q : Nat} (h : q < x.length) : (rvS x a b).getD q 0 = if a ≤ q ∧ q ≤ b then x.getD (a + b - q) 0 else x.getD q 0 := by
  unfold rvS
  rw [List.getD_eq_getElem?_getD, List.getElem?_map, List.getElem?_range h]; rfl
theorem rvS_at {x : List Int} {a b : Nat} (hab : a ≤ b) (hb : b < x.length) : x.take a ++ ((x.drop a).take (b + 1 - a)).reverse ++ x.drop (a + (b + 1 - a)) = rvS x a b := by
  have hl1 : (x.take a).length = a := by rw [List.length_take]; omega
  have hl2 : ((x.drop a).take (b + 1 - a)).reverse.length = b + 1 - a := by rw [List.length_reverse, List.length_take, List.length_drop]; omega
  refine ext0 (by simp [rvS]; omega) fun q hq => ?_
  have hq' : q < x.length := by simp only [List.length_append, hl1, hl2, List.length_drop] at hq; omega
  rw [rvS_get hq']
  by_cases h1 : q < a
  · rw [if_neg (by omega), List.append_assoc, List.getD_eq_getElem?_getD, List.getElem?_append_left (by omega), List.getElem?_take, if_pos h1, ← List.getD_eq_getElem?_getD]
  · by_cases h2 : q ≤ b
    · rw [if_pos ⟨by omega, h2⟩, List.append_assoc, List.getD_eq_getElem?_getD, List.getElem?_append_right (by omega), hl1, List.getElem?_append_left (by omega), List.getElem?_reverse (by rw [List.length_reverse] at hl2; omega)]
      rw [List.length_reverse] at hl2
      rw [hl2, List.getElem?_take, if_pos (by omega), List.getElem?_drop, ← List.getD_eq_getElem?_getD]
      congr 1; omega
    · rw [if_neg (by omega), List.getD_eq_getElem?_getD, List.getElem?_append_right (by rw [List.length_append]; omega), List.length_append, hl1, hl2, List.getElem?_drop, ← List.getD_eq_getElem?_getD]
      congr 1; omega
def rvP (x : List Int) (a b k : Nat) : List Int := (List.range x.length).map fun q => if a ≤ q ∧ q ≤ b ∧ q < a + k then x.getD (a + b - q) 0 else x.getD q 0
theorem rvP_len (x : List Int) (a b k : Nat) : (rvP x a b k).length = x.length := by simp [rvP]
theorem rvP_zero (x : List Int) (a b : Nat) : rvP x a b 0 = x := by
  refine ext0 (by simp [rvP]) fun q hq => ?_
  rw [rvP_len] at hq
  unfold rvP
  rw [List.getD_eq_getElem?_getD, List.getElem?_map, List.getElem?_range hq]
  show (if a ≤ q ∧ q ≤ b ∧ q < a + 0 then _ else x.getD q 0) = _
  rw [if_neg (by omega)]
theorem rvP_step {x : List Int} {a b k : Nat} (h : a + k ≤ b) : (rvP x a b k).set (a + k) (x.getD (a + b - (a + k)) 0) = rvP x a b (k + 1) := by
  unfold rvP
  apply List.ext_getElem (by simp)
  intro q h1 h2
  simp only [List.getElem_set, List.getElem_map, List.getElem_range]
  split
  · rename_i e; subst e; rw [if_pos (by omega)]
  · rename_i e
    by_cases g : a ≤ q ∧ q ≤ b ∧ q < a + k
    · rw [if_pos g, if_pos (by omega)]
    · rw [if_neg g, if_neg (by omega)]
theorem rvP_all {x : List Int} {a b k : Nat} (h : b < a + k) : rvP x a b k = rvS x a b := by
  unfold rvP rvS
  refine List.map_congr_left fun q _ => ?_
  by_cases g : a ≤ q ∧ q ≤ b
  · rw [if_pos ⟨g.1, g.2, by omega⟩, if_pos g]
  · rw [if_neg (by omega), if_neg g]
end Go.Proofs.Ytnikajkklocncaa
namespace Go.Proofs.Ytnikajkklocncaa
open Go.RowKit
theorem D.appendI {P : Program} {a : Act} {w w0 : World} {nn : Nat} {l : List (Nat × Value)} {Q : Exit → Act → World → Prop} {F : Nat → Prop} {L : List Ck} {S : World → Prop} {os : List Oper} {is : Ordt} {i last : Nat} {b0 : Bool} {d : Nat} {t e ty : TypeId} {x y : Operand} {pos : String} {aft : Array Edge}
    {k n bytes cap : Nat} {v z : Value} {xs : List Value} {X : List Int} {ad : Option Addr} {j : TypeInfo} (hA : St nn l a) (hM : Mem w0 F L w) (ho : ith os i = some { dst := some d, op := .call { callee := .builtin .append, args := #[x, y], argTypes := #[t, t] }, type := ty, pos, after := aft, guard := none })
    (hk : ith L k = some (own e 1 v n xs)) (hX : IntSl w (.slice ad X.length cap) X) (hpos : 0 < X.length) (ht : P.underlying t = some (.slice e)) (hi : P.info? e = some j) (hz : j.zero = some z) (hsz : j.size = 1) (hby : j.bytes = bytes) (hzs : z.cells.size = 1)
    (hx : opv l x = some v) (hy : opv l y = some (.slice ad X.length cap)) (hmax : n + X.length ≤ maxLen) (hbs : (n + X.length) * bytes ≤ 140737488355328) (hd : Nat.blt d nn = true)
    (h : ∀ a' cap' w', Mem w0 F (setAt L k (own e 1 (.slice a' (n + X.length) cap') (n + X.length) (xs ++ X.map (Value.int .i64)))) w' → S w' ∧ ∀ a, St nn ((d, .slice a' (n + X.length) cap') :: l) a → wpOrd P last os Q S b0 is a w') : wpOrd P last os Q S b0 (.cons (i, false) is) a w := by
  obtain ⟨ad', cap', he, hle, hmx, hnn, hc⟩ := hX
  injection he with he1 he2 he3
  subst he1 he3
  cases ad with
  | none => exact absurd (hnn rfl) (by omega)
  | some p =>
    refine D.appendG hA hM ho hk ht hi hz hsz hby hzs (by decide) hx hy (by simp) (fun j u hu => ?_) (allOne_ints X) hmax hbs hd h
    obtain ⟨hj, rfl⟩ := mapi_take X j u hu
    obtain ⟨b, off, hb, hlt, hcell⟩ := hc (by intro e0; rw [e0] at hj; simp at hj)
    cases hb
    rw [Addr.add_lit]; exact hcell j hj
end Go.Proofs.Ytnikajkklocncaa
namespace Go.Proofs.Ytnikajkklocncaa
open Go.RowKit
theorem bdI_nn {X : List Int} (h : ∀ z, 0 ≤ X.getD z 0 ∧ X.getD z 0 ≤ 2147483647) : bdI X := fun z => ⟨by have := h z; omega, by have := h z; omega⟩
theorem noNeg {X : List Int} (h : ∀ z, 0 ≤ X.getD z 0 ∧ X.getD z 0 ≤ 2147483647) : hasNeg X = false := hasNeg_no (fun j _ => (h j).1)
theorem knp_good {i : Ins} (hF : InF i) (hk : i.kind = 1) : ¬ badQ i.vl i.wt := fun h => by
  have h1 := hF.wt
  have h2 := hF.vl
  have h3 := hF.n64
  rw [if_pos hk] at h1 h2
  rcases h with ((g | g) | g) | g
  · omega
  · omega
  · rw [noNeg hF.vlr] at g; cases g
  · rw [noNeg hF.wtr] at g; cases g
def frI (i : Ins) : List Int := if chk i ≠ 0 then [] else if i.kind = 1 then knS i else rwA i (i.n.toNat - frm i)
theorem frI_no {i : Ins} (h : ¬ chk i = 0) : frI i = [] := if_pos h
theorem frI_kn {i : Ins} (h : chk i = 0) (hk : i.kind = 1) : frI i = knS i := by unfold frI; rw [if_neg (not_not_intro h), if_pos hk]
theorem frI_rw {i : Ins} (h : chk i = 0) (hk : ¬ i.kind = 1) : frI i = rwA i (i.n.toNat - frm i) := by unfold frI; rw [if_neg (not_not_intro h), if_neg hk]
theorem frI_cost {i : Ins} (h : chk i = 0) : (costI i (frI i)).2 = 0 := by
  have hF := chk_inF h
  by_cases hk : i.kind = 1
  · rw [frI_kn h hk, costI_kn h hk]; exact knS_ok hF hk
  · rw [frI_rw h hk, costI_or h hk, if_neg (not_not_intro (rwA_ord hF))]
def usOK (x : List Int) (n : Nat) (U : List Bool) : Prop := U.length = n ∧ ∀ c, c < n → U.getD c false = decide ((c : Int) ∈ x)
theorem us_nil (n : Nat) : usOK [] n (List.replicate n false) := ⟨List.length_replicate, fun c hc => by rw [List.getD_eq_getElem?_getD, List.getElem?_replicate, if_pos hc]; simp⟩
theorem us_add {x : List Int} {n q : Nat} {U : List Bool} (h : usOK x n U) (hq : q < n) : usOK (x ++ [(q : Int)]) n (U.set q true) := by
  refine ⟨by rw [List.length_set]; exact h.1, fun c hc => ?_⟩
  rw [List.getD_eq_getElem?_getD, List.getElem?_set]
  by_cases e : q = c
  · subst e; rw [if_pos rfl, if_pos (by rw [h.1]; exact hc)]; simp
  · rw [if_neg e, ← List.getD_eq_getElem?_getD, h.2 c hc]
    refine decide_eq_decide.2 ⟨fun g => List.mem_append_left _ g, fun g => ?_⟩
    rcases List.mem_append.1 g with g | g
    · exact g
    · have := List.mem_singleton.1 g; omega
theorem us_zero {n : Nat} (hn : 1 ≤ n) : usOK [0] n ((List.replicate n false).set 0 true) := us_add (us_nil n) hn
theorem rowLn {i : Ins} (hF : InF i) (hk : i.kind ≠ 1) {r : Nat} (h : r < i.n.toNat) : (i.cost.getD r []).length = i.n.toNat := by
  have hc := hF.cost
  rw [if_neg hk] at hc
  exact hF.row r (by omega)
theorem ratioK (i : Ins) (ax3 : Option Addr) (cx3 : Nat) (ax4 : Option Addr) (cx4 : Nat) (ax5 : Option Addr) (cx5 : Nat) (l : List Int) (hl : byQ i.vl i.wt = l) (hF : InF i) (hk1 : i.kind = 1) (w : World) (h4 : IntSl w (.slice ax4 i.vl.length cx4) i.vl) (h3 : IntSl w (.slice ax3 i.wt.length cx3) i.wt) :
    Calls Try.prog 71 #[.slice ax4 i.vl.length cx4, .slice ax3 i.wt.length cx3] w fun e w' => ∃ a c, e = .returned (.tuple #[.slice a l.length c, .int .i64 0]) ∧ IntSl w' (.slice a l.length c) l ∧ frs w.heap.size a ∧ Below w.heap.size w w' := by
  have h := byratioF ax4 i.vl cx4 ax3 i.wt cx3 (bdI_nn hF.vlr) (bdI_nn hF.wtr) w h4 h3
  have hb := knp_good hF hk1
  rw [show qL i.vl i.wt = byQ i.vl i.wt from if_neg hb, show qE i.vl i.wt = 0 from if_neg hb, hl] at h
  exact h
theorem rratioK (i : Ins) (ax3 : Option Addr) (cx3 : Nat) (ax4 : Option Addr) (cx4 : Nat) (ax5 : Option Addr) (cx5 : Nat) (l : List Int) (hl : byQ i.vl i.wt = l) (hF : InF i) (hk1 : i.kind = 1) (w : World) (h4 : IntSl w (.slice ax4 i.vl.length cx4) i.vl) (h3 : IntSl w (.slice ax3 i.wt.length cx3) i.wt) :
    Calls Try.prog 65 #[.slice ax4 i.vl.length cx4, .slice ax3 i.wt.length cx3] w fun e w' => ∃ a c, e = .returned (.tuple #[.slice a l.length c, .int .i64 0]) ∧ IntSl w' (.slice a l.length c) l ∧ frs w.heap.size a ∧ Below w.heap.size w w' := by
  have h := rbyratioF ax4 i.vl cx4 ax3 i.wt cx3 (bdI_nn hF.vlr) (bdI_nn hF.wtr) w h4 h3
  have hb := knp_good hF hk1
  rw [show qL i.vl i.wt = byQ i.vl i.wt from if_neg hb, show qE i.vl i.wt = 0 from if_neg hb, hl] at h
  exact h
set_option maxRecDepth 100000 in
set_option maxHeartbeats 400000 in
theorem fill10 (i : Ins) (ax3 : Option Addr) (cx3 : Nat) (ax4 : Option Addr) (cx4 : Nat) (ax5 : Option Addr) (cx5 : Nat) (hF : InF i) (hk1 : i.kind = 1) (w : World) (hx3 : IntSl w (.slice ax3 i.wt.length cx3) i.wt) (hx4 : IntSl w (.slice ax4 i.vl.length cx4) i.vl) (hx5 : RowsV w (.slice ax5 i.cost.length cx5) i.cost) :
  Calls Try.prog 62 #[.agg #[.int .i64 i.kind, .int .i64 i.n, .int .i64 i.cap, .slice ax3 i.wt.length cx3, .slice ax4 i.vl.length cx4, .slice ax5 i.cost.length cx5]] w fun e w' => ∃ a c, e = .returned (.tuple #[.slice a ((flS i (byQ i.vl i.wt) i.n.toNat).1).length c, .int .i64 ((flS i (byQ i.vl i.wt) i.n.toNat).2.2)]) ∧ IntSl w' (.slice a ((flS i (byQ i.vl i.wt) i.n.toNat).1).length c) ((flS i (byQ i.vl i.wt) i.n.toNat).1) ∧ Below w.heap.size w w' := by
 have hbs := Below.refl (B := w.heap.size) w
 have f1 := hF.n1
 have f3 := hF.n64
 have f5 := hF.wt
 have f6 := hF.vl
 have f8 := hF.cap
 rw [if_pos hk1] at f5 f6
 have hwr := hF.wtr
 have hvr := hF.vlr
 have hal := alI_bd i
 have hrp : (List.replicate i.n.toNat (0 : Int)).length = i.n.toNat := List.length_replicate
 have hM := Mem.start w
 refine Calls.of_ends (vs := [.agg #[.int .i64 i.kind, .int .i64 i.n, .int .i64 i.cap, .slice ax3 i.wt.length cx3, .slice ax4 i.vl.length cx4, .slice ax5 i.cost.length cx5]]) Try.func62 rfl Try.ntmps62 rfl ?_
 intro a hA
 replace hA : St 57 [(0, _)] a := hA
 refine Ends.seq (Ends.region ?_)
 refine S.box hA hM rfl rfl ?_; clear hA hM a; intro b1 w1 hb2 hM a hA
 replace hM : Mem _ _ [pt b1 #[.int .i64 i.kind, .int .i64 i.n, .int .i64 i.cap, .slice ax3 i.wt.length cx3, .slice ax4 i.vl.length cx4, .slice ax5 i.cost.length cx5] 25] _ := hM
 refine S.val hA (R.assign rfl) rfl ?_; clear hA a; intro a hA
 refine S.val hA (R.assign rfl) rfl ?_; clear hA a; intro a hA
 refine S.done ?_
 refine Ends.seq (Ends.region ?_)
 refine S.val hA (R.fieldAddr (q := 1) fi25_1 rfl rfl rfl) rfl ?_; clear hA a; intro a hA
 refine S.val hA (R.load sz3 rfl (hM.cell (k := 0) rfl rfl)) rfl ?_; clear hA a; intro a hA
 refine S.make hA hM Try.underlying22 info3 rfl rfl rfl (by omega) (by show (8 : Int) * _ ≤ _; omega) (by omega) rfl ?_; clear hA hM a; intro b3 w2 hb4 hM a hA
 replace hM : Mem _ _ [pt b3 (madeCells #[.int .i64 0] (i.n.toNat * 1)) 3, pt b1 #[.int .i64 i.kind, .int .i64 i.n, .int .i64 i.cap, .slice ax3 i.wt.length cx3, .slice ax4 i.vl.length cx4, .slice ax5 i.cost.length cx5] 25] _ := hM
 rw [Nat.mul_one, made_ints] at hM
 replace hM : Mem _ _ [pt b3 ((ints (List.replicate i.n.toNat 0))) 3, pt b1 #[.int .i64 i.kind, .int .i64 i.n, .int .i64 i.cap, .slice ax3 i.wt.length cx3, .slice ax4 i.vl.length cx4, .slice ax5 i.cost.length cx5] 25] _ := hM
 refine S.val hA (R.assign rfl) rfl ?_; clear hA a; intro a hA
 refine S.done ?_
 replace hA : St 57 [(1, _), (4, _)] a := hA.sub ((.cons rfl (.cons rfl .nil)))
 refine Ends.seq (Ends.region ?_)
 refine S.val hA (R.fieldAddr (q := 4) fi25_4 rfl rfl rfl) rfl ?_; clear hA a; intro a hA
 refine S.val hA (R.load sz22 rfl (hM.cell (k := 1) rfl rfl)) rfl ?_; clear hA a; intro a hA
 refine S.val hA (R.fieldAddr (q := 3) fi25_3 rfl rfl rfl) rfl ?_; clear hA a; intro a hA
 refine S.val hA (R.load sz22 rfl (hM.cell (k := 1) rfl rfl)) rfl ?_; clear hA a; intro a hA
 obtain ⟨l, hl⟩ : ∃ l, byQ i.vl i.wt = l := ⟨_, rfl⟩
 have hll : l.length = i.n.toNat := by rw [← hl, byQ_len]; exact f6
 have hlat : ∀ m, m < i.n.toNat → 0 ≤ l.getD m 0 ∧ l.getD m 0 < (i.n.toNat : Int) := fun m hm => by rw [← hl]; have := byQ_at (v := i.vl) (w := i.wt) (m := m) (by omega); omega
 refine S.call hA (R.callF Try.func71 rfl rfl rfl) rfl (ratioK i ax3 cx3 ax4 cx4 ax5 cx5 l hl hF hk1 _ (hx4.mem hM) (hx3.mem hM)) ?_; clear hA a
 rintro e w3 ⟨la, lc, rfl, hli, hlf, hb⟩
 replace hM : Mem _ _ [rd la lc l, pt b3 ((ints (List.replicate i.n.toNat 0))) 3, pt b1 #[.int .i64 i.kind, .int .i64 i.n, .int .i64 i.cap, .slice ax3 i.wt.length cx3, .slice ax4 i.vl.length cx4, .slice ax5 i.cost.length cx5] 25] _ := hM.callRd hb hli hlf; clear hb
 refine ⟨.tuple #[.slice la l.length lc, .int .i64 0], rfl, fun a hA => ?_⟩
 refine S.val hA (R.move rfl) rfl ?_; clear hA a; intro a hA
 refine S.val hA (R.extract (v := .slice la l.length lc) rfl rfl) rfl ?_; clear hA a; intro a hA
 refine S.val hA (R.extract (v := .int .i64 0) rfl rfl) rfl ?_; clear hA a; intro a hA
 refine S.val hA (R.assign rfl) rfl ?_; clear hA a; intro a hA
 refine S.val hA (R.assign rfl) rfl ?_; clear hA a; intro a hA
 refine S.done ?_
 replace hA : St 57 [(1, _), (4, _), (5, _)] a := hA.sub ((.cons rfl (.cons rfl (.cons rfl .nil))))
 refine Ends.seq (Ends.region ?_)
 refine S.val hA (R.fieldAddr (q := 2) fi25_2 rfl rfl rfl) rfl ?_; clear hA a; intro a hA
 refine S.val hA (R.load sz3 rfl (hM.cell (k := 2) rfl rfl)) rfl ?_; clear hA a; intro a hA
 refine S.val hA (R.to (v := .int .i64 ((flS i l 0).2.1)) (R.assign rfl) (rfl)) rfl ?_; clear hA a; intro a hA
 refine S.val hA (R.to (v := .int .i64 ((flS i l 0).2.2)) (R.assign rfl) (rfl)) rfl ?_; clear hA a; intro a hA
 refine S.done ?_
 refine Ends.seq (Ends.seq (Ends.region ?_))
 refine S.val hA (R.move rfl) rfl ?_; clear hA a; intro a hA
 refine S.val hA (R.lenS Try.underlying22 rfl rfl) rfl ?_; clear hA a; intro a hA
 refine S.val hA (R.move rfl) rfl ?_; clear hA a; intro a hA
 refine S.done ?_
 refine Ends.block ?_
 replace hM : Mem _ _ [rd la lc l, pt b3 ((ints (flS i l 0).1)) 3, pt b1 #[.int .i64 i.kind, .int .i64 i.n, .int .i64 i.cap, .slice ax3 i.wt.length cx3, .slice ax4 i.vl.length cx4, .slice ax5 i.cost.length cx5] 25] _ := hM
 refine Ends.loop (σ := Nat) (fun m (a : Act) (wv : World) => St 57 [(1, .pointer (some ⟨b1, 0, none⟩)), (4, .slice (some ⟨b3, 0, none⟩) i.n.toNat i.n.toNat), (7, .int .i64 ((flS i l m).2.1)), (8, .int .i64 ((flS i l m).2.2)), (24, .slice la l.length lc), (25, .int .i64 ((l.length : Int))), (26, .int .i64 ((m : Int)))] a ∧ Mem w nof [rd la lc l, pt b3 ((ints (flS i l m).1)) 3, pt b1 #[.int .i64 i.kind, .int .i64 i.n, .int .i64 i.cap, .slice ax3 i.wt.length cx3, .slice ax4 i.vl.length cx4, .slice ax5 i.cost.length cx5] 25] wv ∧ (m ≤ i.n.toNat)) (fun m => i.n.toNat - m) 0 ⟨hA.sub ((.cons rfl (.cons rfl (.cons rfl (.cons rfl (.cons rfl (.cons rfl (.cons rfl .nil)))))))), hM, (Nat.zero_le _)⟩ ?_
 clear hA hM a
 rintro m a w4 ⟨hA, hM, hm⟩ hNext
 refine Ends.seq (Ends.region ?_)
 refine S.val hA (R.lss rfl rfl) rfl ?_; clear hA a; intro a hA
 refine S.done ?_
 refine Ends.seq ?_
 refine Ends.ite hA rfl (fun hc5 => ?_) (fun hc5 => ?_)
 ·
  have hla := hlat m (by omega)
  have hfl := flS_len i l m
  have hfr := flS_room hF l m
  have hfw := flS_worth hF l m
  have hwa := hwr (l.getD m 0).toNat
  have hva := hvr (l.getD m 0).toNat
  refine Ends.skip (Ends.seq (Ends.block (Ends.seq (Ends.region ?_))))
  refine S.val hA (R.idxI (hM.rd (k := 0) rfl) (j := m) sl22 rfl rfl (by omega) (rfl)) rfl ?_; clear hA a; intro a hA
  refine S.val hA (R.loadI (hM.rd (k := 0) rfl) sz3 rfl (by omega)) rfl ?_; clear hA a; intro a hA
  refine S.val hA (R.assign rfl) rfl ?_; clear hA a; intro a hA
  refine S.done ?_
  refine Ends.seq (Ends.region ?_)
  refine S.val hA (R.fieldAddr (q := 3) fi25_3 rfl rfl rfl) rfl ?_; clear hA a; intro a hA
  refine S.val hA (R.load sz22 rfl (hM.cell (k := 2) rfl rfl)) rfl ?_; clear hA a; intro a hA
  refine S.val hA (R.move rfl) rfl ?_; clear hA a; intro a hA
  refine S.val hA (R.idxI hx3 (j := (l.getD m 0).toNat) sl22 rfl rfl (by omega) (rfl)) rfl ?_; clear hA a; intro a hA
  refine S.val hA (R.loadI (hx3.mem hM) sz3 rfl (by omega)) rfl ?_; clear hA a; intro a hA
  refine S.val hA (R.move rfl) rfl ?_; clear hA a; intro a hA
  refine S.val hA (R.leq rfl rfl) rfl ?_; clear hA a; intro a hA
  refine S.done ?_
  replace hA : St 57 [(1, _), (4, _), (7, _), (8, _), (10, _), (24, _), (25, _), (26, _), (36, _)] a := hA.sub ((.cons rfl (.cons rfl (.cons rfl (.cons rfl (.cons rfl (.cons rfl (.cons rfl (.cons rfl (.cons rfl .nil))))))))))
  refine Ends.ite hA rfl (fun hc6 => ?_) (fun hc6 => ?_)
  ·
   refine Ends.seq (Ends.region ?_)
   refine S.val hA (R.move rfl) rfl ?_; clear hA a; intro a hA
   refine S.val hA (R.move rfl) rfl ?_; clear hA a; intro a hA
   refine S.val hA (R.indexAddr (q := (l.getD m 0).toNat) sl22 rfl rfl (by omega) (by omega)) rfl ?_; clear hA a; intro a hA
   refine S.store (k := 1) hA hM sz3 rfl rfl rfl rfl (ints_getD ((flS i l m).1) _ (by omega)) ?_; clear hM
   intro w5 hM
   rw [ints_set] at hM
   replace hM : Mem _ _ [rd la lc l, pt b3 ((ints (((flS i l m).1).set ((l.getD m 0).toNat) 1))) 3, pt b1 #[.int .i64 i.kind, .int .i64 i.n, .int .i64 i.cap, .slice ax3 i.wt.length cx3, .slice ax4 i.vl.length cx4, .slice ax5 i.cost.length cx5] 25] _ := hM
   refine S.done ?_
   replace hA : St 57 [(1, _), (4, _), (7, _), (8, _), (10, _), (24, _), (25, _), (26, _)] a := hA.sub ((.cons rfl (.cons rfl (.cons rfl (.cons rfl (.cons rfl (.cons rfl (.cons rfl (.cons rfl .nil)))))))))
   refine Ends.seq (Ends.region ?_)
   refine S.val hA (R.move rfl) rfl ?_; clear hA a; intro a hA
   refine S.val hA (R.fieldAddr (q := 3) fi25_3 rfl rfl rfl) rfl ?_; clear hA a; intro a hA
   refine S.val hA (R.load sz22 rfl (hM.cell (k := 2) rfl rfl)) rfl ?_; clear hA a; intro a hA
   refine S.val hA (R.move rfl) rfl ?_; clear hA a; intro a hA
   refine S.val hA (R.idxI hx3 (j := (l.getD m 0).toNat) sl22 rfl rfl (by omega) (rfl)) rfl ?_; clear hA a; intro a hA
   refine S.val hA (R.loadI (hx3.mem hM) sz3 rfl (by omega)) rfl ?_; clear hA a; intro a hA
   refine S.val hA (R.subI rfl rfl (r := ((flS i l m).2.1) - (i.wt.getD ((l.getD m 0).toNat) 0)) rfl (by omega)) rfl ?_; clear hA a; intro a hA
   refine S.val hA (R.assign rfl) rfl ?_; clear hA a; intro a hA
   refine S.done ?_
   replace hA : St 57 [(1, _), (4, _), (7, _), (8, _), (10, _), (24, _), (25, _), (26, _)] a := hA.sub ((.cons rfl (.cons rfl (.cons rfl (.cons rfl (.cons rfl (.cons rfl (.cons rfl (.cons rfl .nil)))))))))
   refine Ends.region ?_
   refine S.val hA (R.move rfl) rfl ?_; clear hA a; intro a hA
   refine S.val hA (R.fieldAddr (q := 4) fi25_4 rfl rfl rfl) rfl ?_; clear hA a; intro a hA
   refine S.val hA (R.load sz22 rfl (hM.cell (k := 2) rfl rfl)) rfl ?_; clear hA a; intro a hA
   refine S.val hA (R.move rfl) rfl ?_; clear hA a; intro a hA
   refine S.val hA (R.idxI hx4 (j := (l.getD m 0).toNat) sl22 rfl rfl (by omega) (rfl)) rfl ?_; clear hA a; intro a hA
   refine S.val hA (R.loadI (hx4.mem hM) sz3 rfl (by omega)) rfl ?_; clear hA a; intro a hA
   refine S.val hA (R.addI rfl rfl (r := ((flS i l m).2.2) + (i.vl.getD ((l.getD m 0).toNat) 0)) rfl (by omega)) rfl ?_; clear hA a; intro a hA
   refine S.val hA (R.assign rfl) rfl ?_; clear hA a; intro a hA
   refine S.done ?_
   replace hA : St 57 [(1, _), (4, _), (7, _), (8, _), (24, _), (25, _), (26, _)] a := hA.sub ((.cons rfl (.cons rfl (.cons rfl (.cons rfl (.cons rfl (.cons rfl (.cons rfl .nil))))))))
   refine Ends.inBlock (Ends.region ?_)
   refine S.val hA (R.addI rfl rfl (r := ((m : Int)) + 1) rfl (by omega)) rfl ?_; clear hA a; intro a hA
   refine S.val hA (R.move rfl) rfl ?_; clear hA a; intro a hA
   refine S.done ?_
   have hs9 := flS_take hc6
   rw [show (flS i l m).1.set (l.getD m 0).toNat 1 = (flS i l (m + 1)).1 by rw [hs9]] at hM
   rw [show (flS i l m).2.1 - i.wt.getD (l.getD m 0).toNat 0 = (flS i l (m + 1)).2.1 by rw [hs9], show (flS i l m).2.2 + i.vl.getD (l.getD m 0).toNat 0 = (flS i l (m + 1)).2.2 by rw [hs9]] at hA
   replace hM : Mem _ _ [rd la lc l, pt b3 ((ints (flS i l (m + 1)).1)) 3, pt b1 #[.int .i64 i.kind, .int .i64 i.n, .int .i64 i.cap, .slice ax3 i.wt.length cx3, .slice ax4 i.vl.length cx4, .slice ax5 i.cost.length cx5] 25] _ := hM
   exact hNext ((m + 1)) _ _ ((by show i.n.toNat - (m + 1) < i.n.toNat - m; omega)) ⟨hA.sub ((.cons rfl (.cons rfl (.cons rfl (.cons rfl (.cons rfl (.cons rfl (.cons rfl .nil)))))))), hM, (by omega)⟩
  ·
   refine Ends.skip (Ends.inBlock (Ends.region ?_))
   refine S.val hA (R.addI rfl rfl (r := ((m : Int)) + 1) rfl (by omega)) rfl ?_; clear hA a; intro a hA
   refine S.val hA (R.move rfl) rfl ?_; clear hA a; intro a hA
   refine S.done ?_
   have hs9 := flS_leave hc6
   rw [← hs9] at hM hA
   replace hM : Mem _ _ [rd la lc l, pt b3 ((ints (flS i l (m + 1)).1)) 3, pt b1 #[.int .i64 i.kind, .int .i64 i.n, .int .i64 i.cap, .slice ax3 i.wt.length cx3, .slice ax4 i.vl.length cx4, .slice ax5 i.cost.length cx5] 25] _ := hM
   exact hNext ((m + 1)) _ _ ((by show i.n.toNat - (m + 1) < i.n.toNat - m; omega)) ⟨hA.sub ((.cons rfl (.cons rfl (.cons rfl (.cons rfl (.cons rfl (.cons rfl (.cons rfl .nil)))))))), hM, (by omega)⟩
 ·
  have hme : m = i.n.toNat := by omega
  refine Ends.exit rfl ?_
  replace hA : St 57 [(4, _), (8, _)] a := hA.sub ((.cons rfl (.cons rfl .nil)))
  refine Ends.seq (Ends.region ?_)
  refine S.val hA (R.move rfl) rfl ?_; clear hA a; intro a hA
  refine S.val hA (R.move rfl) rfl ?_; clear hA a; intro a hA
  refine S.val hA (R.assign rfl) rfl ?_; clear hA a; intro a hA
  refine S.val hA (R.assign rfl) rfl ?_; clear hA a; intro a hA
  refine S.done ?_
  replace hA : St 57 [(2, _), (3, _)] a := hA.sub ((.cons rfl (.cons rfl .nil)))
  refine Ends.ret2 Try.func62 Try.results62 hA rfl rfl ?_
  subst hl
  rw [hme] at hM ⊢
  have hfl := flS_len i (byQ i.vl i.wt) i.n.toNat
  have hr := hM.ptRs (k := 1) (X := (flS i (byQ i.vl i.wt) i.n.toNat).1) rfl (by omega)
  rw [hfl] at hr
  exact ⟨_, _, by rw [hfl], by rw [hfl]; exact hr, Mem.trans0 hbs hM.nilL⟩
set_option maxRecDepth 100000 in
set_option maxHeartbeats 400000 in
theorem alone10 (i : Ins) (ax3 : Option Addr) (cx3 : Nat) (ax4 : Option Addr) (cx4 : Nat) (ax5 : Option Addr) (cx5 : Nat) (hF : InF i) (hk1 : i.kind = 1) (w : World) (hx3 : IntSl w (.slice ax3 i.wt.length cx3) i.wt) (hx4 : IntSl w (.slice ax4 i.vl.length cx4) i.vl) (hx5 : RowsV w (.slice ax5 i.cost.length cx5) i.cost) :
  Calls Try.prog 63 #[.agg #[.int .i64 i.kind, .int .i64 i.n, .int .i64 i.cap, .slice ax3 i.wt.length cx3, .slice ax4 i.vl.length cx4, .slice ax5 i.cost.length cx5]] w fun e w' => e = .returned (.int .i64 (alI i i.n.toNat)) ∧ Below w.heap.size w w' := by
 have hbs := Below.refl (B := w.heap.size) w
 have f1 := hF.n1
 have f3 := hF.n64
 have f5 := hF.wt
 have f6 := hF.vl
 have f8 := hF.cap
 rw [if_pos hk1] at f5 f6
 have hwr := hF.wtr
 have hvr := hF.vlr
 have hal := alI_bd i
 have hrp : (List.replicate i.n.toNat (0 : Int)).length = i.n.toNat := List.length_replicate
 have hM := Mem.start w
 refine Calls.of_ends (vs := [.agg #[.int .i64 i.kind, .int .i64 i.n, .int .i64 i.cap, .slice ax3 i.wt.length cx3, .slice ax4 i.vl.length cx4, .slice ax5 i.cost.length cx5]]) Try.func63 rfl Try.ntmps63 rfl ?_
 intro a hA
 replace hA : St 38 [(0, _)] a := hA
 refine Ends.seq (Ends.region ?_)
 refine S.box hA hM rfl rfl ?_; clear hA hM a; intro b1 w1 hb2 hM a hA
 replace hM : Mem _ _ [pt b1 #[.int .i64 i.kind, .int .i64 i.n, .int .i64 i.cap, .slice ax3 i.wt.length cx3, .slice ax4 i.vl.length cx4, .slice ax5 i.cost.length cx5] 25] _ := hM
 refine S.val hA (R.assign rfl) rfl ?_; clear hA a; intro a hA
 refine S.done ?_
 refine Ends.seq (Ends.region ?_)
 refine S.val hA (R.to (v := .int .i64 (alI i 0)) (R.assign rfl) (rfl)) rfl ?_; clear hA a; intro a hA
 refine S.done ?_
 refine Ends.seq (Ends.seq (Ends.region ?_))
 refine S.val hA (R.fieldAddr (q := 3) fi25_3 rfl rfl rfl) rfl ?_; clear hA a; intro a hA
 refine S.val hA (R.load sz22 rfl (hM.cell (k := 0) rfl rfl)) rfl ?_; clear hA a; intro a hA
 refine S.val hA (R.lenS Try.underlying22 rfl rfl) rfl ?_; clear hA a; intro a hA
 refine S.val hA (R.move rfl) rfl ?_; clear hA a; intro a hA
 refine S.done ?_
 refine Ends.block ?_
 refine Ends.loop (σ := Nat) (fun k (a : Act) (wv : World) => St 38 [(1, .pointer (some ⟨b1, 0, none⟩)), (3, .int .i64 (alI i k)), (7, .slice ax3 i.wt.length cx3), (8, .int .i64 ((i.wt.length : Int))), (9, .int .i64 ((k : Int)))] a ∧ Mem w nof [pt b1 #[.int .i64 i.kind, .int .i64 i.n, .int .i64 i.cap, .slice ax3 i.wt.length cx3, .slice ax4 i.vl.length cx4, .slice ax5 i.cost.length cx5] 25] wv ∧ (k ≤ i.wt.length)) (fun k => i.wt.length - k) 0 ⟨hA.sub ((.cons rfl (.cons rfl (.cons rfl (.cons rfl (.cons rfl .nil)))))), hM, (Nat.zero_le _)⟩ ?_
 clear hA hM a
 rintro k a w2 ⟨hA, hM, hk⟩ hNext
 refine Ends.seq (Ends.region ?_)
 refine S.val hA (R.lss rfl rfl) rfl ?_; clear hA a; intro a hA
 refine S.done ?_
 refine Ends.seq ?_
 refine Ends.ite hA rfl (fun hc3 => ?_) (fun hc3 => ?_)
 ·
  have hab := hal k
  refine Ends.skip (Ends.seq (Ends.block (Ends.seq (Ends.region ?_))))
  refine S.val hA (R.move rfl) rfl ?_; clear hA a; intro a hA
  refine S.val hA (R.idxI hx3 (j := k) sl22 rfl rfl (by omega) (rfl)) rfl ?_; clear hA a; intro a hA
  refine S.val hA (R.loadI (hx3.mem hM) sz3 rfl (by omega)) rfl ?_; clear hA a; intro a hA
  refine S.val hA (R.assign rfl) rfl ?_; clear hA a; intro a hA
  refine S.val hA (R.assign rfl) rfl ?_; clear hA a; intro a hA
  refine S.done ?_
  replace hA : St 38 [(1, _), (3, _), (4, _), (5, _), (7, _), (8, _), (9, _)] a := hA.sub ((.cons rfl (.cons rfl (.cons rfl (.cons rfl (.cons rfl (.cons rfl (.cons rfl .nil))))))))
  refine Ends.seq ?_
  refine Ends.cut (fun (a : Act) (wv : World) => St 38 [(1, .pointer (some ⟨b1, 0, none⟩)), (3, .int .i64 (alI i k)), (4, .int .i64 ((k : Int))), (7, .slice ax3 i.wt.length cx3), (8, .int .i64 ((i.wt.length : Int))), (9, .int .i64 ((k : Int))), (34, .bool (decide (((i.wt.getD k 0) ≤ i.cap ∧ ((alI i k) < 0 ∨ (i.vl.getD ((alI i k).toNat) 0) < (i.vl.getD k 0))))))] a ∧ Mem w nof [pt b1 #[.int .i64 i.kind, .int .i64 i.n, .int .i64 i.cap, .slice ax3 i.wt.length cx3, .slice ax4 i.vl.length cx4, .slice ax5 i.cost.length cx5] 25] wv) ?_ (fun k2 hJ => ?_)
  ·
   clear hA hM a; rintro a w3 ⟨hA, hM⟩
   refine Ends.ite hA rfl (fun hc4 => ?_) (fun hc4 => ?_)
   ·
    have hs9 : alI i (k + 1) = (k : Int) := by rw [alI]; exact if_pos hc4
    refine Ends.region ?_
    refine S.val hA (R.move rfl) rfl ?_; clear hA a; intro a hA
    refine S.val hA (R.to (v := .int .i64 (alI i (k + 1))) (R.assign rfl) (congrArg (Value.int .i64) hs9.symm)) rfl ?_; clear hA a; intro a hA
    refine S.done ?_
    refine Ends.inBlock (Ends.region ?_)
    refine S.val hA (R.addI rfl rfl (r := ((k : Int)) + 1) rfl (by omega)) rfl ?_; clear hA a; intro a hA
    refine S.val hA (R.move rfl) rfl ?_; clear hA a; intro a hA
    refine S.done ?_
    replace hA : St 38 [(1, _), (3, _), (7, _), (8, _), (9, _)] a := hA.sub ((.cons rfl (.cons rfl (.cons rfl (.cons rfl (.cons rfl .nil))))))
    exact hNext ((k + 1)) _ _ ((by show i.wt.length - (k + 1) < i.wt.length - k; omega)) ⟨hA.sub ((.cons rfl (.cons rfl (.cons rfl (.cons rfl (.cons rfl .nil)))))), hM, (by omega)⟩
   ·
    have hs9 : alI i (k + 1) = alI i k := by rw [alI]; exact if_neg hc4
    refine Ends.skip (Ends.inBlock (Ends.region ?_))
    refine S.val hA (R.addI rfl rfl (r := ((k : Int)) + 1) rfl (by omega)) rfl ?_; clear hA a; intro a hA
    refine S.val hA (R.move rfl) rfl ?_; clear hA a; intro a hA
    refine S.done ?_
    rw [← hs9] at hA
    exact hNext ((k + 1)) _ _ ((by show i.wt.length - (k + 1) < i.wt.length - k; omega)) ⟨hA.sub ((.cons rfl (.cons rfl (.cons rfl (.cons rfl (.cons rfl .nil)))))), hM, (by omega)⟩
  ·
   refine Ends.drawn (Mem w nof [pt b1 #[.int .i64 i.kind, .int .i64 i.n, .int .i64 i.cap, .slice ax3 i.wt.length cx3, .slice ax4 i.vl.length cx4, .slice ax5 i.cost.length cx5] 25]) (.cons (0, true) (.cons (1, true) (.cons (2, true) (.cons (3, true) (.cons (4, true) (.cons (5, true) (.cons (6, true) (.cons (7, true) (.cons (8, true) (.cons (9, true) (.cons (10, true) (.cons (11, true) (.cons (12, true) (.cons (13, true) (.cons (14, true) (.cons (15, true) (.cons (16, true) (.cons (17, true) (.cons (18, true) (.cons (19, true) (.cons (20, true) .nil))))))))))))))))))))) 21 mixed (by kernel_rfl) (by kernel_rfl) (by kernel_rfl) hM.drew ?_
   replace hM := hM.drew
   refine D.valF hA rfl (fun _ => R.move rfl) rfl ?_; clear hA a; intro a hA
   refine D.valF hA rfl (fun _ => R.fieldAddr (q := 2) fi25_2 rfl rfl rfl) rfl ?_; clear hA a; intro a hA
   refine D.val hA rfl (by kernel_rfl) (fun _ hM => R.load sz3 rfl (hM.cell (k := 0) rfl rfl)) rfl ?_; clear hA a; intro a hA
   refine D.valF hA rfl (fun _ => R.leq rfl rfl) rfl ?_; clear hA a; intro a hA
   refine D.valF hA rfl (fun _ => R.move rfl) rfl ?_; clear hA a; intro a hA
   refine hA.split (d := 18) rfl ?_ ?_
   ·
    clear hA; intro hg5 hA
    refine D.valgF (dj := 18) hA rfl (by kernel_rfl) rfl (fun _ => R.move rfl) rfl ?_; clear hA a; intro a hA
    refine D.valgF (dj := 18) hA rfl (by kernel_rfl) rfl (fun _ => R.lss rfl rfl) rfl ?_; clear hA a; intro a hA
    refine D.valgF (dj := 18) hA rfl (by kernel_rfl) rfl (fun _ => R.move rfl) rfl ?_; clear hA a; intro a hA
    refine hA.split (d := 21) rfl ?_ ?_
    ·
     clear hA; intro hg6 hA
     refine D.no (dj := 21) hA rfl (by kernel_rfl) rfl rfl rfl ?_; clear hA a; intro a hA
     refine D.no (dj := 21) hA rfl (by kernel_rfl) rfl rfl rfl ?_; clear hA a; intro a hA
     refine D.no (dj := 21) hA rfl (by kernel_rfl) rfl rfl rfl ?_; clear hA a; intro a hA
     refine D.no (dj := 21) hA rfl (by kernel_rfl) rfl rfl rfl ?_; clear hA a; intro a hA
     refine D.no (dj := 21) hA rfl (by kernel_rfl) rfl rfl rfl ?_; clear hA a; intro a hA
     refine D.no (dj := 21) hA rfl (by kernel_rfl) rfl rfl rfl ?_; clear hA a; intro a hA
     refine D.no (dj := 21) hA rfl (by kernel_rfl) rfl rfl rfl ?_; clear hA a; intro a hA
     refine D.no (dj := 21) hA rfl (by kernel_rfl) rfl rfl rfl ?_; clear hA a; intro a hA
     refine D.no (dj := 21) hA rfl (by kernel_rfl) rfl rfl rfl ?_; clear hA a; intro a hA
     refine D.no (dj := 21) hA rfl (by kernel_rfl) rfl rfl rfl ?_; clear hA a; intro a hA
     refine D.no (dj := 21) hA rfl (by kernel_rfl) rfl rfl rfl ?_; clear hA a; intro a hA
     refine D.valgF (dj := 18) hA rfl (by kernel_rfl) rfl (fun _ => R.pickT rfl rfl) rfl ?_; clear hA a; intro a hA
     refine D.valF hA rfl (fun _ => R.pickT rfl rfl) rfl ?_; clear hA a; intro a hA
     refine D.done ?_
     replace hA : St 38 [(1, _), (3, _), (4, _), (7, _), (8, _), (9, _), (34, _)] a := hA.sub ((.cons rfl (.cons rfl (.cons rfl (.cons rfl (.cons rfl (.cons rfl (.cons rfl .nil))))))))
     exact hJ _ _ ⟨hA.sub (.cons rfl (.cons rfl (.cons rfl (.cons rfl (.cons rfl (.cons rfl (.cons (by first | rfl | exact congrArg (fun b => some (Value.bool b)) (by first | exact decide_eq_decide.2 (by omega) | exact or_bool (by omega) | exact and_bool (by omega) | (simp; done) | (simp [hg5, hg6]; done) | (have h80 := hg5; (try simp at h80); have h81 := hg6; (try simp at h81); simp [h80, h81]; done) | exact (decide_eq_false (fun h9 => hg5 h9.1)).symm | exact (decide_eq_false (fun h9 => hg6 h9.1)).symm)) .nil))))))), hM⟩
    ·
     clear hA; intro hg6 hA
     refine D.valgF (dj := 21) hA rfl (by kernel_rfl) rfl (fun _ => R.fieldAddr (q := 4) fi25_4 rfl rfl rfl) rfl ?_; clear hA a; intro a hA
     refine D.valg (dj := 21) hA rfl (by kernel_rfl) (by kernel_rfl) rfl (fun _ hM => R.load sz22 rfl (hM.cell (k := 0) rfl rfl)) rfl ?_; clear hA a; intro a hA
     refine D.valgF (dj := 21) hA rfl (by kernel_rfl) rfl (fun _ => R.move rfl) rfl ?_; clear hA a; intro a hA
     refine D.valgF (dj := 21) hA rfl (by kernel_rfl) rfl (fun _ => R.idxI hx4 (j := k) sl22 rfl rfl (by omega) (rfl)) rfl ?_; clear hA a; intro a hA
     refine D.valg (dj := 21) hA rfl (by kernel_rfl) (by kernel_rfl) rfl (fun _ hM => R.loadI (hx4.mem hM) sz3 rfl (by omega)) rfl ?_; clear hA a; intro a hA
     refine D.valgF (dj := 21) hA rfl (by kernel_rfl) rfl (fun _ => R.fieldAddr (q := 4) fi25_4 rfl rfl rfl) rfl ?_; clear hA a; intro a hA
     refine D.valg (dj := 21) hA rfl (by kernel_rfl) (by kernel_rfl) rfl (fun _ hM => R.load sz22 rfl (hM.cell (k := 0) rfl rfl)) rfl ?_; clear hA a; intro a hA
     refine D.valgF (dj := 21) hA rfl (by kernel_rfl) rfl (fun _ => R.move rfl) rfl ?_; clear hA a; intro a hA
     refine D.valgF (dj := 21) hA rfl (by kernel_rfl) rfl (fun _ => R.idxI hx4 (j := (alI i k).toNat) sl22 rfl rfl (by omega) (rfl)) rfl ?_; clear hA a; intro a hA
     refine D.valg (dj := 21) hA rfl (by kernel_rfl) (by kernel_rfl) rfl (fun _ hM => R.loadI (hx4.mem hM) sz3 rfl (by omega)) rfl ?_; clear hA a; intro a hA
     refine D.valgF (dj := 21) hA rfl (by kernel_rfl) rfl (fun _ => R.gtr rfl rfl) rfl ?_; clear hA a; intro a hA
     refine D.valgF (dj := 18) hA rfl (by kernel_rfl) rfl (fun _ => R.pickF rfl rfl) rfl ?_; clear hA a; intro a hA
     refine D.valF hA rfl (fun _ => R.pickT rfl rfl) rfl ?_; clear hA a; intro a hA
     refine D.done ?_
     replace hA : St 38 [(1, _), (3, _), (4, _), (7, _), (8, _), (9, _), (34, _)] a := hA.sub ((.cons rfl (.cons rfl (.cons rfl (.cons rfl (.cons rfl (.cons rfl (.cons rfl .nil))))))))
     exact hJ _ _ ⟨hA.sub (.cons rfl (.cons rfl (.cons rfl (.cons rfl (.cons rfl (.cons rfl (.cons (by first | rfl | exact congrArg (fun b => some (Value.bool b)) (by first | exact decide_eq_decide.2 (by omega) | exact or_bool (by omega) | exact and_bool (by omega) | (simp; done) | (simp [hg5, hg6]; done) | (have h80 := hg5; (try simp at h80); have h81 := hg6; (try simp at h81); simp [h80, h81]; done) | exact (decide_eq_false (fun h9 => hg5 h9.1)).symm | exact (decide_eq_false (fun h9 => hg6 h9.1)).symm)) .nil))))))), hM⟩
   ·
    clear hA; intro hg5 hA
    refine D.no (dj := 18) hA rfl (by kernel_rfl) rfl rfl rfl ?_; clear hA a; intro a hA
    refine D.no (dj := 18) hA rfl (by kernel_rfl) rfl rfl rfl ?_; clear hA a; intro a hA
    refine D.no (dj := 18) hA rfl (by kernel_rfl) rfl rfl rfl ?_; clear hA a; intro a hA
    refine D.noU (dj := 21) hA rfl (by kernel_rfl) rfl rfl ?_; clear hA a; intro a hA
    refine D.noU (dj := 21) hA rfl (by kernel_rfl) rfl rfl ?_; clear hA a; intro a hA
    refine D.noU (dj := 21) hA rfl (by kernel_rfl) rfl rfl ?_; clear hA a; intro a hA
    refine D.noU (dj := 21) hA rfl (by kernel_rfl) rfl rfl ?_; clear hA a; intro a hA
    refine D.noU (dj := 21) hA rfl (by kernel_rfl) rfl rfl ?_; clear hA a; intro a hA
    refine D.noU (dj := 21) hA rfl (by kernel_rfl) rfl rfl ?_; clear hA a; intro a hA
    refine D.noU (dj := 21) hA rfl (by kernel_rfl) rfl rfl ?_; clear hA a; intro a hA
    refine D.noU (dj := 21) hA rfl (by kernel_rfl) rfl rfl ?_; clear hA a; intro a hA
    refine D.noU (dj := 21) hA rfl (by kernel_rfl) rfl rfl ?_; clear hA a; intro a hA
    refine D.noU (dj := 21) hA rfl (by kernel_rfl) rfl rfl ?_; clear hA a; intro a hA
    refine D.noU (dj := 21) hA rfl (by kernel_rfl) rfl rfl ?_; clear hA a; intro a hA
    refine D.no (dj := 18) hA rfl (by kernel_rfl) rfl rfl rfl ?_; clear hA a; intro a hA
    refine D.valF hA rfl (fun _ => R.pickF rfl rfl) rfl ?_; clear hA a; intro a hA
    refine D.done ?_
    replace hA : St 38 [(1, _), (3, _), (4, _), (7, _), (8, _), (9, _), (34, _)] a := hA.sub ((.cons rfl (.cons rfl (.cons rfl (.cons rfl (.cons rfl (.cons rfl (.cons rfl .nil))))))))
    exact hJ _ _ ⟨hA.sub (.cons rfl (.cons rfl (.cons rfl (.cons rfl (.cons rfl (.cons rfl (.cons (by first | rfl | exact congrArg (fun b => some (Value.bool b)) (by first | exact decide_eq_decide.2 (by omega) | exact or_bool (by omega) | exact and_bool (by omega) | (simp; done) | (simp [hg5]; done) | (have h80 := hg5; (try simp at h80); simp [h80]; done) | exact (decide_eq_false (fun h9 => hg5 h9.1)).symm)) .nil))))))), hM⟩
 ·
  have hab := hal k
  have hke : k = i.wt.length := by omega
  refine Ends.exit rfl ?_
  replace hA : St 38 [(3, _)] a := hA.sub ((.cons rfl .nil))
  refine Ends.seq (Ends.region ?_)
  refine S.val hA (R.move rfl) rfl ?_; clear hA a; intro a hA
  refine S.val hA (R.assign rfl) rfl ?_; clear hA a; intro a hA
  refine S.done ?_
  refine Ends.ret1 Try.func63 Try.results63 hA rfl ?_
  exact ⟨by rw [hke, f5], Mem.trans0 hbs hM.nilL⟩
set_option maxRecDepth 100000 in
set_option maxHeartbeats 400000 in
theorem knap10 (i : Ins) (ax3 : Option Addr) (cx3 : Nat) (ax4 : Option Addr) (cx4 : Nat) (ax5 : Option Addr) (cx5 : Nat) (hF : InF i) (hk1 : i.kind = 1) (w : World) (hx3 : IntSl w (.slice ax3 i.wt.length cx3) i.wt) (hx4 : IntSl w (.slice ax4 i.vl.length cx4) i.vl) (hx5 : RowsV w (.slice ax5 i.cost.length cx5) i.cost) :
  Calls Try.prog 46 #[.agg #[.int .i64 i.kind, .int .i64 i.n, .int .i64 i.cap, .slice ax3 i.wt.length cx3, .slice ax4 i.vl.length cx4, .slice ax5 i.cost.length cx5]] w fun e w' => ∃ a c, e = .returned (.slice a ((knS i)).length c) ∧ IntSl w' (.slice a ((knS i)).length c) ((knS i)) ∧ Below w.heap.size w w' := by
 have hbs := Below.refl (B := w.heap.size) w
 have f1 := hF.n1
 have f3 := hF.n64
 have f5 := hF.wt
 have f6 := hF.vl
 have f8 := hF.cap
 rw [if_pos hk1] at f5 f6
 have hwr := hF.wtr
 have hvr := hF.vlr
 have hal := alI_bd i
 have hrp : (List.replicate i.n.toNat (0 : Int)).length = i.n.toNat := List.length_replicate
 have hab := hal i.n.toNat
 have hM := Mem.start w
 refine Calls.of_ends (vs := [.agg #[.int .i64 i.kind, .int .i64 i.n, .int .i64 i.cap, .slice ax3 i.wt.length cx3, .slice ax4 i.vl.length cx4, .slice ax5 i.cost.length cx5]]) Try.func46 rfl Try.ntmps46 rfl ?_
 intro a hA
 replace hA : St 31 [(0, _)] a := hA
 refine Ends.seq (Ends.region ?_)
 refine S.box hA hM rfl rfl ?_; clear hA hM a; intro b1 w1 hb2 hM a hA
 replace hM : Mem _ _ [pt b1 #[.int .i64 i.kind, .int .i64 i.n, .int .i64 i.cap, .slice ax3 i.wt.length cx3, .slice ax4 i.vl.length cx4, .slice ax5 i.cost.length cx5] 25] _ := hM
 refine S.val hA (R.assign rfl) rfl ?_; clear hA a; intro a hA
 refine S.done ?_
 refine Ends.seq (Ends.region ?_)
 refine S.val hA (R.loadA sz25 rfl (hM.range (k := 0) rfl) rfl) rfl ?_; clear hA a; intro a hA
 refine S.call hA (R.callF Try.func62 rfl rfl rfl) rfl (fill10 i ax3 cx3 ax4 cx4 ax5 cx5 hF hk1 _ (hx3.mem hM) (hx4.mem hM) (hx5.mem hM)) ?_; clear hA a
 rintro e w2 ⟨ra3, rc4, rfl, rh5, hb⟩
 replace hM := hM.callB hb; clear hb
 have hbx6 := hM.block (k := 0) rfl
 have hbs := hbs.trans (hM.below.mono hbs.size)
 have hx3 := hx3.mem hM
 have hx4 := hx4.mem hM
 have hx5 := hx5.mem hM
 replace hM := Mem.start w2
 refine ⟨.tuple #[.slice ra3 (((flS i (byQ i.vl i.wt) i.n.toNat).1).length) rc4, .int .i64 ((flS i (byQ i.vl i.wt) i.n.toNat).2.2)], rfl, fun a hA => ?_⟩
 refine S.val hA (R.move rfl) rfl ?_; clear hA a; intro a hA
 refine S.val hA (R.extract (v := .slice ra3 (((flS i (byQ i.vl i.wt) i.n.toNat).1).length) rc4) rfl rfl) rfl ?_; clear hA a; intro a hA
 refine S.val hA (R.extract (v := .int .i64 ((flS i (byQ i.vl i.wt) i.n.toNat).2.2)) rfl rfl) rfl ?_; clear hA a; intro a hA
 refine S.val hA (R.assign rfl) rfl ?_; clear hA a; intro a hA
 refine S.val hA (R.assign rfl) rfl ?_; clear hA a; intro a hA
 refine S.done ?_
 replace hA : St 31 [(1, _), (3, _), (4, _)] a := hA.sub ((.cons rfl (.cons rfl (.cons rfl .nil))))
 refine Ends.seq (Ends.seq (Ends.region ?_))
 refine S.val hA (R.loadA sz25 rfl (hM.oldRange hbx6) rfl) rfl ?_; clear hA a; intro a hA
 refine S.call hA (R.callF Try.func63 rfl rfl rfl) rfl (alone10 i ax3 cx3 ax4 cx4 ax5 cx5 hF hk1 _ (hx3.mem hM) (hx4.mem hM) (hx5.mem hM)) ?_; clear hA a
 rintro e w3 ⟨rfl, hb⟩
 replace hM := hM.callB hb; clear hb
 refine ⟨.int .i64 (alI i i.n.toNat), rfl, fun a hA => ?_⟩
 refine S.val hA (R.assign rfl) rfl ?_; clear hA a; intro a hA
 refine S.done ?_
 refine Ends.seq ?_
 refine Ends.cut (fun (a : Act) (wv : World) => St 31 [(1, .pointer (some ⟨b1, 0, none⟩)), (3, .slice ra3 (((flS i (byQ i.vl i.wt) i.n.toNat).1).length) rc4), (5, .int .i64 (alI i i.n.toNat)), (23, .bool (decide ((0 ≤ (alI i i.n.toNat) ∧ ((flS i (byQ i.vl i.wt) i.n.toNat).2.2) < (i.vl.getD ((alI i i.n.toNat).toNat) 0)))))] a ∧ Mem w2 nof [] wv) ?_ (fun k2 hJ => ?_)
 ·
  clear hA hM a; rintro a w4 ⟨hA, hM⟩
  refine Ends.ite hA rfl (fun hc7 => ?_) (fun hc7 => ?_)
  ·
   refine Ends.seq (Ends.region ?_)
   refine S.val hA (R.fieldAddr (q := 1) fi25_1 rfl rfl rfl) rfl ?_; clear hA a; intro a hA
   refine S.val hA (R.load sz3 rfl (hM.cellB hbx6 rfl)) rfl ?_; clear hA a; intro a hA
   refine S.make hA hM Try.underlying22 info3 rfl rfl rfl (by omega) (by show (8 : Int) * _ ≤ _; omega) (by omega) rfl ?_; clear hA hM a; intro b8 w5 hb9 hM a hA
   replace hM : Mem _ _ [pt b8 (madeCells #[.int .i64 0] (i.n.toNat * 1)) 3] _ := hM
   rw [Nat.mul_one, made_ints] at hM
   replace hM : Mem _ _ [pt b8 ((ints (List.replicate i.n.toNat 0))) 3] _ := hM
   refine S.val hA (R.assign rfl) rfl ?_; clear hA a; intro a hA
   refine S.done ?_
   replace hA : St 31 [(3, _), (5, _)] a := hA.sub ((.cons rfl (.cons rfl .nil)))
   refine Ends.region ?_
   refine S.val hA (R.move rfl) rfl ?_; clear hA a; intro a hA
   refine S.val hA (R.move rfl) rfl ?_; clear hA a; intro a hA
   refine S.val hA (R.indexAddr (q := (alI i i.n.toNat).toNat) sl22 rfl rfl (by omega) (by omega)) rfl ?_; clear hA a; intro a hA
   refine S.store (k := 0) hA hM sz3 rfl rfl rfl rfl (ints_getD ((List.replicate i.n.toNat 0)) _ (by omega)) ?_; clear hM
   intro w6 hM
   rw [ints_set] at hM
   replace hM : Mem _ _ [pt b8 ((ints (((List.replicate i.n.toNat 0)).set ((alI i i.n.toNat).toNat) 1))) 3] _ := hM
   refine S.done ?_
   replace hA : St 31 [(3, _)] a := hA.sub ((.cons rfl .nil))
   refine Ends.seq (Ends.region ?_)
   refine S.val hA (R.move rfl) rfl ?_; clear hA a; intro a hA
   refine S.val hA (R.assign rfl) rfl ?_; clear hA a; intro a hA
   refine S.done ?_
   refine Ends.ret1 Try.func46 Try.results46 hA rfl ?_
   have he : knS i = (((List.replicate i.n.toNat 0)).set ((alI i i.n.toNat).toNat) 1) := if_pos hc7
   have hkl := knS_len i
   rw [← he] at hM
   have hr := hM.ptRs (k := 0) (X := knS i) rfl (by omega)
   rw [hkl] at hr
   exact ⟨_, _, by rw [hkl], by rw [hkl]; exact hr, Mem.trans0 hbs hM.nilL⟩
  ·
   refine Ends.skip (Ends.seq (Ends.region ?_))
   refine S.val hA (R.move rfl) rfl ?_; clear hA a; intro a hA
   refine S.val hA (R.assign rfl) rfl ?_; clear hA a; intro a hA
   refine S.done ?_
   replace hA : St 31 [(2, _)] a := hA.sub ((.cons rfl .nil))
   refine Ends.ret1 Try.func46 Try.results46 hA rfl ?_
   have he : knS i = (flS i (byQ i.vl i.wt) i.n.toNat).1 := if_neg hc7
   rw [he]
   exact ⟨_, _, rfl, rh5.mem hM, Mem.trans0 hbs hM.nilL⟩
 ·
  refine Ends.region ?_
  refine S.val hA (R.move rfl) rfl ?_; clear hA a; intro a hA
  refine S.val hA (R.geq rfl rfl) rfl ?_; clear hA a; intro a hA
  refine S.val hA (R.move rfl) rfl ?_; clear hA a; intro a hA
  refine hA.split (d := 15) rfl ?_ ?_
  ·
   clear hA; intro hg10 hA
   refine S.valg (dj := 15) hA (by kernel_rfl) rfl (R.fieldAddr (q := 4) fi25_4 rfl rfl rfl) rfl ?_; clear hA a; intro a hA
   refine S.valg (dj := 15) hA (by kernel_rfl) rfl (R.load sz22 rfl (hM.cellB hbx6 rfl)) rfl ?_; clear hA a; intro a hA
   refine S.valg (dj := 15) hA (by kernel_rfl) rfl (R.move rfl) rfl ?_; clear hA a; intro a hA
   refine S.valg (dj := 15) hA (by kernel_rfl) rfl (R.idxI hx4 (j := (alI i i.n.toNat).toNat) sl22 rfl rfl (by omega) (rfl)) rfl ?_; clear hA a; intro a hA
   refine S.valg (dj := 15) hA (by kernel_rfl) rfl (R.loadI (hx4.mem hM) sz3 rfl (by omega)) rfl ?_; clear hA a; intro a hA
   refine S.valg (dj := 15) hA (by kernel_rfl) rfl (R.move rfl) rfl ?_; clear hA a; intro a hA
   refine S.valg (dj := 15) hA (by kernel_rfl) rfl (R.gtr rfl rfl) rfl ?_; clear hA a; intro a hA
   refine S.val hA (R.pickT rfl rfl) rfl ?_; clear hA a; intro a hA
   refine S.done ?_
   replace hA : St 31 [(1, _), (3, _), (5, _), (23, _)] a := hA.sub ((.cons rfl (.cons rfl (.cons rfl (.cons rfl .nil)))))
   exact hJ _ _ ⟨hA.sub (.cons rfl (.cons rfl (.cons rfl (.cons (by first | rfl | exact congrArg (fun b => some (Value.bool b)) (by first | exact decide_eq_decide.2 (by omega) | exact or_bool (by omega) | exact and_bool (by omega) | (simp; done) | (simp [hg10]; done) | (have h80 := hg10; (try simp at h80); simp [h80]; done) | exact (decide_eq_false (fun h9 => hg10 h9.1)).symm)) .nil)))), hM⟩
  ·
   clear hA; intro hg10 hA
   refine S.no (dj := 15) hA (by kernel_rfl) rfl rfl rfl ?_; clear hA a; intro a hA
   refine S.no (dj := 15) hA (by kernel_rfl) rfl rfl rfl ?_; clear hA a; intro a hA
   refine S.no (dj := 15) hA (by kernel_rfl) rfl rfl rfl ?_; clear hA a; intro a hA
   refine S.no (dj := 15) hA (by kernel_rfl) rfl rfl rfl ?_; clear hA a; intro a hA
   refine S.no (dj := 15) hA (by kernel_rfl) rfl rfl rfl ?_; clear hA a; intro a hA
   refine S.no (dj := 15) hA (by kernel_rfl) rfl rfl rfl ?_; clear hA a; intro a hA
   refine S.no (dj := 15) hA (by kernel_rfl) rfl rfl rfl ?_; clear hA a; intro a hA
   refine S.val hA (R.pickF rfl rfl) rfl ?_; clear hA a; intro a hA
   refine S.done ?_
   replace hA : St 31 [(1, _), (3, _), (5, _), (23, _)] a := hA.sub ((.cons rfl (.cons rfl (.cons rfl (.cons rfl .nil)))))
   exact hJ _ _ ⟨hA.sub (.cons rfl (.cons rfl (.cons rfl (.cons (by first | rfl | exact congrArg (fun b => some (Value.bool b)) (by first | exact decide_eq_decide.2 (by omega) | exact or_bool (by omega) | exact and_bool (by omega) | (simp; done) | (simp [hg10]; done) | (have h80 := hg10; (try simp at h80); simp [h80]; done) | exact (decide_eq_false (fun h9 => hg10 h9.1)).symm)) .nil)))), hM⟩
set_option maxRecDepth 100000 in
set_option maxHeartbeats 400000 in
theorem rknap10 (i : Ins) (ax3 : Option Addr) (cx3 : Nat) (ax4 : Option Addr) (cx4 : Nat) (ax5 : Option Addr) (cx5 : Nat) (hF : InF i) (hk1 : i.kind = 1) (w : World) (hx3 : IntSl w (.slice ax3 i.wt.length cx3) i.wt) (hx4 : IntSl w (.slice ax4 i.vl.length cx4) i.vl) (hx5 : RowsV w (.slice ax5 i.cost.length cx5) i.cost) :
  Calls Try.prog 48 #[.agg #[.int .i64 i.kind, .int .i64 i.n, .int .i64 i.cap, .slice ax3 i.wt.length cx3, .slice ax4 i.vl.length cx4, .slice ax5 i.cost.length cx5]] w fun e w' => ∃ a c, e = .returned (.slice a ((knS i)).length c) ∧ IntSl w' (.slice a ((knS i)).length c) ((knS i)) ∧ Below w.heap.size w w' := by
 have hbs := Below.refl (B := w.heap.size) w
 have f1 := hF.n1
 have f3 := hF.n64
 have f5 := hF.wt
 have f6 := hF.vl
 have f8 := hF.cap
 rw [if_pos hk1] at f5 f6
 have hwr := hF.wtr
 have hvr := hF.vlr
 have hal := alI_bd i
 have hrp : (List.replicate i.n.toNat (0 : Int)).length = i.n.toNat := List.length_replicate
 have hM := Mem.start w
 refine Calls.of_ends (vs := [.agg #[.int .i64 i.kind, .int .i64 i.n, .int .i64 i.cap, .slice ax3 i.wt.length cx3, .slice ax4 i.vl.length cx4, .slice ax5 i.cost.length cx5]]) Try.func48 rfl Try.ntmps48 rfl ?_
 intro a hA
 replace hA : St 116 [(0, _)] a := hA
 refine Ends.seq (Ends.region ?_)
 refine S.box hA hM rfl rfl ?_; clear hA hM a; intro b1 w1 hb2 hM a hA
 replace hM : Mem _ _ [pt b1 #[.int .i64 i.kind, .int .i64 i.n, .int .i64 i.cap, .slice ax3 i.wt.length cx3, .slice ax4 i.vl.length cx4, .slice ax5 i.cost.length cx5] 25] _ := hM
 refine S.val hA (R.assign rfl) rfl ?_; clear hA a; intro a hA
 refine S.done ?_
 refine Ends.seq (Ends.region ?_)
 refine S.val hA (R.fieldAddr (q := 1) fi25_1 rfl rfl rfl) rfl ?_; clear hA a; intro a hA
 refine S.val hA (R.load sz3 rfl (hM.cell (k := 0) rfl rfl)) rfl ?_; clear hA a; intro a hA
 refine S.make hA hM Try.underlying22 info3 rfl rfl rfl (by omega) (by show (8 : Int) * _ ≤ _; omega) (by omega) rfl ?_; clear hA hM a; intro b3 w2 hb4 hM a hA
 replace hM : Mem _ _ [pt b3 (madeCells #[.int .i64 0] (i.n.toNat * 1)) 3, pt b1 #[.int .i64 i.kind, .int .i64 i.n, .int .i64 i.cap, .slice ax3 i.wt.length cx3, .slice ax4 i.vl.length cx4, .slice ax5 i.cost.length cx5] 25] _ := hM
 rw [Nat.mul_one, made_ints] at hM
 replace hM : Mem _ _ [pt b3 ((ints (List.replicate i.n.toNat 0))) 3, pt b1 #[.int .i64 i.kind, .int .i64 i.n, .int .i64 i.cap, .slice ax3 i.wt.length cx3, .slice ax4 i.vl.length cx4, .slice ax5 i.cost.length cx5] 25] _ := hM
 refine S.val hA (R.assign rfl) rfl ?_; clear hA a; intro a hA
 refine S.done ?_
 replace hA : St 116 [(1, _), (3, _)] a := hA.sub ((.cons rfl (.cons rfl .nil)))
 refine Ends.seq (Ends.region ?_)
 refine S.val hA (R.fieldAddr (q := 4) fi25_4 rfl rfl rfl) rfl ?_; clear hA a; intro a hA
 refine S.val hA (R.load sz22 rfl (hM.cell (k := 1) rfl rfl)) rfl ?_; clear hA a; intro a hA
 refine S.val hA (R.fieldAddr (q := 3) fi25_3 rfl rfl rfl) rfl ?_; clear hA a; intro a hA
 refine S.val hA (R.load sz22 rfl (hM.cell (k := 1) rfl rfl)) rfl ?_; clear hA a; intro a hA
 obtain ⟨l, hl⟩ : ∃ l, byQ i.vl i.wt = l := ⟨_, rfl⟩
 have hll : l.length = i.n.toNat := by rw [← hl, byQ_len]; exact f6
 have hlat : ∀ m, m < i.n.toNat → 0 ≤ l.getD m 0 ∧ l.getD m 0 < (i.n.toNat : Int) := fun m hm => by rw [← hl]; have := byQ_at (v := i.vl) (w := i.wt) (m := m) (by omega); omega
 refine S.call hA (R.callF Try.func65 rfl rfl rfl) rfl (rratioK i ax3 cx3 ax4 cx4 ax5 cx5 l hl hF hk1 _ (hx4.mem hM) (hx3.mem hM)) ?_; clear hA a
 rintro e w3 ⟨la, lc, rfl, hli, hlf, hb⟩
 replace hM : Mem _ _ [rd la lc l, pt b3 ((ints (List.replicate i.n.toNat 0))) 3, pt b1 #[.int .i64 i.kind, .int .i64 i.n, .int .i64 i.cap, .slice ax3 i.wt.length cx3, .slice ax4 i.vl.length cx4, .slice ax5 i.cost.length cx5] 25] _ := hM.callRd hb hli hlf; clear hb
 refine ⟨.tuple #[.slice la l.length lc, .int .i64 0], rfl, fun a hA => ?_⟩
 refine S.val hA (R.move rfl) rfl ?_; clear hA a; intro a hA
 refine S.val hA (R.extract (v := .slice la l.length lc) rfl rfl) rfl ?_; clear hA a; intro a hA
 refine S.val hA (R.extract (v := .int .i64 0) rfl rfl) rfl ?_; clear hA a; intro a hA
 refine S.val hA (R.assign rfl) rfl ?_; clear hA a; intro a hA
 refine S.val hA (R.assign rfl) rfl ?_; clear hA a; intro a hA
 refine S.done ?_
 replace hA : St 116 [(1, _), (3, _), (4, _)] a := hA.sub ((.cons rfl (.cons rfl (.cons rfl .nil))))
 refine Ends.seq (Ends.region ?_)
 refine S.val hA (R.fieldAddr (q := 2) fi25_2 rfl rfl rfl) rfl ?_; clear hA a; intro a hA
 refine S.val hA (R.load sz3 rfl (hM.cell (k := 2) rfl rfl)) rfl ?_; clear hA a; intro a hA
 refine S.val hA (R.to (v := .int .i64 ((flS i l 0).2.1)) (R.assign rfl) (rfl)) rfl ?_; clear hA a; intro a hA
 refine S.val hA (R.to (v := .int .i64 ((flS i l 0).2.2)) (R.assign rfl) (rfl)) rfl ?_; clear hA a; intro a hA
 refine S.done ?_
 refine Ends.seq (Ends.seq (Ends.region ?_))
 refine S.val hA (R.assign rfl) rfl ?_; clear hA a; intro a hA
 refine S.done ?_
 refine Ends.block ?_
 replace hM : Mem _ _ [rd la lc l, pt b3 ((ints (flS i l 0).1)) 3, pt b1 #[.int .i64 i.kind, .int .i64 i.n, .int .i64 i.cap, .slice ax3 i.wt.length cx3, .slice ax4 i.vl.length cx4, .slice ax5 i.cost.length cx5] 25] _ := hM
 refine Ends.loop (σ := Nat) (fun m (a : Act) (wv : World) => St 116 [(1, .pointer (some ⟨b1, 0, none⟩)), (3, .slice (some ⟨b3, 0, none⟩) i.n.toNat i.n.toNat), (4, .slice la l.length lc), (6, .int .i64 ((flS i l m).2.1)), (7, .int .i64 ((flS i l m).2.2)), (8, .int .i64 ((m : Int)))] a ∧ Mem w nof [rd la lc l, pt b3 ((ints (flS i l m).1)) 3, pt b1 #[.int .i64 i.kind, .int .i64 i.n, .int .i64 i.cap, .slice ax3 i.wt.length cx3, .slice ax4 i.vl.length cx4, .slice ax5 i.cost.length cx5] 25] wv ∧ (m ≤ i.n.toNat)) (fun m => i.n.toNat - m) 0 ⟨hA.sub ((.cons rfl (.cons rfl (.cons rfl (.cons rfl (.cons rfl (.cons rfl .nil))))))), hM, (Nat.zero_le _)⟩ ?_
 clear hA hM a
 rintro m a w4 ⟨hA, hM, hm⟩ hNext
 refine Ends.seq (Ends.seq (Ends.region ?_))
 refine S.val hA (R.move rfl) rfl ?_; clear hA a; intro a hA
 refine S.val hA (R.move rfl) rfl ?_; clear hA a; intro a hA
 refine S.val hA (R.lenS Try.underlying22 rfl rfl) rfl ?_; clear hA a; intro a hA
 refine S.val hA (R.lss rfl rfl) rfl ?_; clear hA a; intro a hA
 refine S.done ?_
 refine Ends.ite hA rfl (fun hc5 => ?_) (fun hc5 => ?_)
 ·
  have hla := hlat m (by omega)
  have hfl := flS_len i l m
  have hfr := flS_room hF l m
  have hfw := flS_worth hF l m
  have hwa := hwr (l.getD m 0).toNat
  have hva := hvr (l.getD m 0).toNat
  refine Ends.skip (Ends.seq (Ends.block (Ends.seq ?_)))
  refine Ends.drawn (Mem w nof [rd la lc l, pt b3 ((ints (flS i l m).1)) 3, pt b1 #[.int .i64 i.kind, .int .i64 i.n, .int .i64 i.cap, .slice ax3 i.wt.length cx3, .slice ax4 i.vl.length cx4, .slice ax5 i.cost.length cx5] 25]) (.cons (0, true) (.cons (1, true) (.cons (2, true) (.cons (3, true) (.cons (4, true) (.cons (5, true) (.cons (6, true) (.cons (7, true) (.cons (8, true) (.cons (9, true) .nil)))))))))) 10 mixed (by kernel_rfl) (by kernel_rfl) (by kernel_rfl) hM.drew ?_
  replace hM := hM.drew
  refine D.valF hA rfl (fun _ => R.fieldAddr (q := 3) fi25_3 rfl rfl rfl) rfl ?_; clear hA a; intro a hA
  refine D.val hA rfl (by kernel_rfl) (fun _ hM => R.load sz22 rfl (hM.cell (k := 2) rfl rfl)) rfl ?_; clear hA a; intro a hA
  refine D.valF hA rfl (fun _ => R.move rfl) rfl ?_; clear hA a; intro a hA
  refine D.valF hA rfl (fun _ => R.move rfl) rfl ?_; clear hA a; intro a hA
  refine D.valF hA rfl (fun _ => R.idxI (hM.rd (k := 0) rfl) (j := m) sl22 rfl rfl (by omega) (rfl)) rfl ?_; clear hA a; intro a hA
  refine D.val hA rfl (by kernel_rfl) (fun _ hM => R.loadI (hM.rd (k := 0) rfl) sz3 rfl (by omega)) rfl ?_; clear hA a; intro a hA
  refine D.valF hA rfl (fun _ => R.idxI hx3 (j := (l.getD m 0).toNat) sl22 rfl rfl (by omega) (rfl)) rfl ?_; clear hA a; intro a hA
  refine D.val hA rfl (by kernel_rfl) (fun _ hM => R.loadI (hx3.mem hM) sz3 rfl (by omega)) rfl ?_; clear hA a; intro a hA
  refine D.valF hA rfl (fun _ => R.move rfl) rfl ?_; clear hA a; intro a hA
  refine D.valF hA rfl (fun _ => R.leq rfl rfl) rfl ?_; clear hA a; intro a hA
  refine D.done ?_
  replace hA : St 116 [(1, _), (3, _), (4, _), (6, _), (7, _), (8, _), (39, _)] a := hA.sub ((.cons rfl (.cons rfl (.cons rfl (.cons rfl (.cons rfl (.cons rfl (.cons rfl .nil))))))))
  refine Ends.ite hA rfl (fun hc6 => ?_) (fun hc6 => ?_)
  ·
   refine Ends.seq (Ends.region ?_)
   refine S.val hA (R.move rfl) rfl ?_; clear hA a; intro a hA
   refine S.val hA (R.move rfl) rfl ?_; clear hA a; intro a hA
   refine S.val hA (R.move rfl) rfl ?_; clear hA a; intro a hA
   refine S.val hA (R.idxI (hM.rd (k := 0) rfl) (j := m) sl22 rfl rfl (by omega) (rfl)) rfl ?_; clear hA a; intro a hA
   refine S.val hA (R.loadI (hM.rd (k := 0) rfl) sz3 rfl (by omega)) rfl ?_; clear hA a; intro a hA
   refine S.val hA (R.indexAddr (q := (l.getD m 0).toNat) sl22 rfl rfl (by omega) (by omega)) rfl ?_; clear hA a; intro a hA
   refine S.store (k := 1) hA hM sz3 rfl rfl rfl rfl (ints_getD ((flS i l m).1) _ (by omega)) ?_; clear hM
   intro w5 hM
   rw [ints_set] at hM
   replace hM : Mem _ _ [rd la lc l, pt b3 ((ints (((flS i l m).1).set ((l.getD m 0).toNat) 1))) 3, pt b1 #[.int .i64 i.kind, .int .i64 i.n, .int .i64 i.cap, .slice ax3 i.wt.length cx3, .slice ax4 i.vl.length cx4, .slice ax5 i.cost.length cx5] 25] _ := hM
   refine S.done ?_
   replace hA : St 116 [(1, _), (3, _), (4, _), (6, _), (7, _), (8, _)] a := hA.sub ((.cons rfl (.cons rfl (.cons rfl (.cons rfl (.cons rfl (.cons rfl .nil)))))))
   refine Ends.seq ?_
   refine Ends.drawn (Mem w nof [rd la lc l, pt b3 ((ints (((flS i l m).1).set ((l.getD m 0).toNat) 1))) 3, pt b1 #[.int .i64 i.kind, .int .i64 i.n, .int .i64 i.cap, .slice ax3 i.wt.length cx3, .slice ax4 i.vl.length cx4, .slice ax5 i.cost.length cx5] 25]) (.cons (0, true) (.cons (1, true) (.cons (2, true) (.cons (3, true) (.cons (4, true) (.cons (5, true) (.cons (6, true) (.cons (7, true) (.cons (8, true) (.cons (9, true) (.cons (10, true) .nil))))))))))) 11 mixed (by kernel_rfl) (by kernel_rfl) (by kernel_rfl) hM.drew ?_
   replace hM := hM.drew
   refine D.valF hA rfl (fun _ => R.move rfl) rfl ?_; clear hA a; intro a hA
   refine D.valF hA rfl (fun _ => R.fieldAddr (q := 3) fi25_3 rfl rfl rfl) rfl ?_; clear hA a; intro a hA
   refine D.val hA rfl (by kernel_rfl) (fun _ hM => R.load sz22 rfl (hM.cell (k := 2) rfl rfl)) rfl ?_; clear hA a; intro a hA
   refine D.valF hA rfl (fun _ => R.move rfl) rfl ?_; clear hA a; intro a hA
   refine D.valF hA rfl (fun _ => R.move rfl) rfl ?_; clear hA a; intro a hA
   refine D.valF hA rfl (fun _ => R.idxI (hM.rd (k := 0) rfl) (j := m) sl22 rfl rfl (by omega) (rfl)) rfl ?_; clear hA a; intro a hA
   refine D.val hA rfl (by kernel_rfl) (fun _ hM => R.loadI (hM.rd (k := 0) rfl) sz3 rfl (by omega)) rfl ?_; clear hA a; intro a hA
   refine D.valF hA rfl (fun _ => R.idxI hx3 (j := (l.getD m 0).toNat) sl22 rfl rfl (by omega) (rfl)) rfl ?_; clear hA a; intro a hA
   refine D.val hA rfl (by kernel_rfl) (fun _ hM => R.loadI (hx3.mem hM) sz3 rfl (by omega)) rfl ?_; clear hA a; intro a hA
   refine D.valF hA rfl (fun _ => R.subI rfl rfl (r := ((flS i l m).2.1) - (i.wt.getD ((l.getD m 0).toNat) 0)) rfl (by omega)) rfl ?_; clear hA a; intro a hA
   refine D.valF hA rfl (fun _ => R.assign rfl) rfl ?_; clear hA a; intro a hA
   refine D.done ?_
   replace hA : St 116 [(1, _), (3, _), (4, _), (6, _), (7, _), (8, _)] a := hA.sub ((.cons rfl (.cons rfl (.cons rfl (.cons rfl (.cons rfl (.cons rfl .nil)))))))
   refine Ends.drawn (Mem w nof [rd la lc l, pt b3 ((ints (((flS i l m).1).set ((l.getD m 0).toNat) 1))) 3, pt b1 #[.int .i64 i.kind, .int .i64 i.n, .int .i64 i.cap, .slice ax3 i.wt.length cx3, .slice ax4 i.vl.length cx4, .slice ax5 i.cost.length cx5] 25]) (.cons (0, true) (.cons (1, true) (.cons (2, true) (.cons (3, true) (.cons (4, true) (.cons (5, true) (.cons (6, true) (.cons (7, true) (.cons (8, true) (.cons (9, true) (.cons (10, true) .nil))))))))))) 11 mixed (by kernel_rfl) (by kernel_rfl) (by kernel_rfl) hM.drew ?_
   replace hM := hM.drew
   refine D.valF hA rfl (fun _ => R.move rfl) rfl ?_; clear hA a; intro a hA
   refine D.valF hA rfl (fun _ => R.fieldAddr (q := 4) fi25_4 rfl rfl rfl) rfl ?_; clear hA a; intro a hA
   refine D.val hA rfl (by kernel_rfl) (fun _ hM => R.load sz22 rfl (hM.cell (k := 2) rfl rfl)) rfl ?_; clear hA a; intro a hA
   refine D.valF hA rfl (fun _ => R.move rfl) rfl ?_; clear hA a; intro a hA
   refine D.valF hA rfl (fun _ => R.move rfl) rfl ?_; clear hA a; intro a hA
   refine D.valF hA rfl (fun _ => R.idxI (hM.rd (k := 0) rfl) (j := m) sl22 rfl rfl (by omega) (rfl)) rfl ?_; clear hA a; intro a hA
   refine D.val hA rfl (by kernel_rfl) (fun _ hM => R.loadI (hM.rd (k := 0) rfl) sz3 rfl (by omega)) rfl ?_; clear hA a; intro a hA
   refine D.valF hA rfl (fun _ => R.idxI hx4 (j := (l.getD m 0).toNat) sl22 rfl rfl (by omega) (rfl)) rfl ?_; clear hA a; intro a hA
   refine D.val hA rfl (by kernel_rfl) (fun _ hM => R.loadI (hx4.mem hM) sz3 rfl (by omega)) rfl ?_; clear hA a; intro a hA
   refine D.valF hA rfl (fun _ => R.addI rfl rfl (r := ((flS i l m).2.2) + (i.vl.getD ((l.getD m 0).toNat) 0)) rfl (by omega)) rfl ?_; clear hA a; intro a hA
   refine D.valF hA rfl (fun _ => R.assign rfl) rfl ?_; clear hA a; intro a hA
   refine D.done ?_
   replace hA : St 116 [(1, _), (3, _), (4, _), (6, _), (7, _), (8, _)] a := hA.sub ((.cons rfl (.cons rfl (.cons rfl (.cons rfl (.cons rfl (.cons rfl .nil)))))))
   refine Ends.inBlock (Ends.region ?_)
   refine S.val hA (R.move rfl) rfl ?_; clear hA a; intro a hA
   refine S.val hA (R.addI rfl rfl (r := ((m : Int)) + 1) rfl (by omega)) rfl ?_; clear hA a; intro a hA
   refine S.val hA (R.assign rfl) rfl ?_; clear hA a; intro a hA
   refine S.done ?_
   have hs9 := flS_take hc6
   rw [show (flS i l m).1.set (l.getD m 0).toNat 1 = (flS i l (m + 1)).1 by rw [hs9]] at hM
   rw [show (flS i l m).2.1 - i.wt.getD (l.getD m 0).toNat 0 = (flS i l (m + 1)).2.1 by rw [hs9], show (flS i l m).2.2 + i.vl.getD (l.getD m 0).toNat 0 = (flS i l (m + 1)).2.2 by rw [hs9]] at hA
   replace hM : Mem _ _ [rd la lc l, pt b3 ((ints (flS i l (m + 1)).1)) 3, pt b1 #[.int .i64 i.kind, .int .i64 i.n, .int .i64 i.cap, .slice ax3 i.wt.length cx3, .slice ax4 i.vl.length cx4, .slice ax5 i.cost.length cx5] 25] _ := hM
   exact hNext ((m + 1)) _ _ ((by show i.n.toNat - (m + 1) < i.n.toNat - m; omega)) ⟨hA.sub ((.cons rfl (.cons rfl (.cons rfl (.cons rfl (.cons rfl (.cons rfl .nil))))))), hM, (by omega)⟩
  ·
   refine Ends.skip (Ends.inBlock (Ends.region ?_))
   refine S.val hA (R.move rfl) rfl ?_; clear hA a; intro a hA
   refine S.val hA (R.addI rfl rfl (r := ((m : Int)) + 1) rfl (by omega)) rfl ?_; clear hA a; intro a hA
   refine S.val hA (R.assign rfl) rfl ?_; clear hA a; intro a hA
   refine S.done ?_
   have hs9 := flS_leave hc6
   rw [← hs9] at hM hA
   replace hM : Mem _ _ [rd la lc l, pt b3 ((ints (flS i l (m + 1)).1)) 3, pt b1 #[.int .i64 i.kind, .int .i64 i.n, .int .i64 i.cap, .slice ax3 i.wt.length cx3, .slice ax4 i.vl.length cx4, .slice ax5 i.cost.length cx5] 25] _ := hM
   exact hNext ((m + 1)) _ _ ((by show i.n.toNat - (m + 1) < i.n.toNat - m; omega)) ⟨hA.sub ((.cons rfl (.cons rfl (.cons rfl (.cons rfl (.cons rfl (.cons rfl .nil))))))), hM, (by omega)⟩
 ·
  have hme : m = i.n.toNat := by omega
  refine Ends.exit rfl ?_
  replace hA : St 116 [(1, _), (3, _), (7, _)] a := hA.sub ((.cons rfl (.cons rfl (.cons rfl .nil))))
  refine Ends.seq (Ends.region ?_)
  refine S.val hA (R.to (v := .int .i64 (alI i 0)) (R.assign rfl) (rfl)) rfl ?_; clear hA a; intro a hA
  refine S.done ?_
  refine Ends.seq (Ends.seq (Ends.region ?_))
  refine S.val hA (R.assign rfl) rfl ?_; clear hA a; intro a hA
  refine S.done ?_
  refine Ends.block ?_
  refine Ends.loop (σ := Nat) (fun k (a : Act) (wv : World) => St 116 [(1, .pointer (some ⟨b1, 0, none⟩)), (3, .slice (some ⟨b3, 0, none⟩) i.n.toNat i.n.toNat), (7, .int .i64 ((flS i l m).2.2)), (9, .int .i64 (alI i k)), (10, .int .i64 ((k : Int)))] a ∧ Mem w nof [rd la lc l, pt b3 ((ints (flS i l m).1)) 3, pt b1 #[.int .i64 i.kind, .int .i64 i.n, .int .i64 i.cap, .slice ax3 i.wt.length cx3, .slice ax4 i.vl.length cx4, .slice ax5 i.cost.length cx5] 25] wv ∧ (k ≤ i.n.toNat)) (fun k => i.n.toNat - k) 0 ⟨hA.sub ((.cons rfl (.cons rfl (.cons rfl (.cons rfl (.cons rfl .nil)))))), hM, (Nat.zero_le _)⟩ ?_
  clear hA hM a
  rintro k a w6 ⟨hA, hM, hk⟩ hNext1
  refine Ends.seq (Ends.seq (Ends.region ?_))
  refine S.val hA (R.move rfl) rfl ?_; clear hA a; intro a hA
  refine S.val hA (R.fieldAddr (q := 1) fi25_1 rfl rfl rfl) rfl ?_; clear hA a; intro a hA
  refine S.val hA (R.load sz3 rfl (hM.cell (k := 2) rfl rfl)) rfl ?_; clear hA a; intro a hA
  refine S.val hA (R.lss rfl rfl) rfl ?_; clear hA a; intro a hA
  refine S.done ?_
  refine Ends.ite hA rfl (fun hc7 => ?_) (fun hc7 => ?_)
  ·
   have hab := hal k
   refine Ends.skip (Ends.seq (Ends.block (Ends.seq ?_)))
   refine Ends.cut (fun (a : Act) (wv : World) => St 116 [(1, .pointer (some ⟨b1, 0, none⟩)), (3, .slice (some ⟨b3, 0, none⟩) i.n.toNat i.n.toNat), (7, .int .i64 ((flS i l m).2.2)), (9, .int .i64 (alI i k)), (10, .int .i64 ((k : Int))), (96, .bool (decide (((i.wt.getD k 0) ≤ i.cap ∧ ((alI i k) < 0 ∨ (i.vl.getD ((alI i k).toNat) 0) < (i.vl.getD k 0))))))] a ∧ Mem w nof [rd la lc l, pt b3 ((ints (flS i l m).1)) 3, pt b1 #[.int .i64 i.kind, .int .i64 i.n, .int .i64 i.cap, .slice ax3 i.wt.length cx3, .slice ax4 i.vl.length cx4, .slice ax5 i.cost.length cx5] 25] wv) ?_ (fun k2 hJ => ?_)
   ·
    clear hA hM a; rintro a w7 ⟨hA, hM⟩
    refine Ends.ite hA rfl (fun hc8 => ?_) (fun hc8 => ?_)
    ·
     have hs9 : alI i (k + 1) = (k : Int) := by rw [alI]; exact if_pos hc8
     refine Ends.region ?_
     refine S.val hA (R.move rfl) rfl ?_; clear hA a; intro a hA
     refine S.val hA (R.to (v := .int .i64 (alI i (k + 1))) (R.assign rfl) (congrArg (Value.int .i64) hs9.symm)) rfl ?_; clear hA a; intro a hA
     refine S.done ?_
     refine Ends.inBlock (Ends.region ?_)
     refine S.val hA (R.move rfl) rfl ?_; clear hA a; intro a hA
     refine S.val hA (R.addI rfl rfl (r := ((k : Int)) + 1) rfl (by omega)) rfl ?_; clear hA a; intro a hA
     refine S.val hA (R.assign rfl) rfl ?_; clear hA a; intro a hA
     refine S.done ?_
     replace hA : St 116 [(1, _), (3, _), (7, _), (9, _), (10, _)] a := hA.sub ((.cons rfl (.cons rfl (.cons rfl (.cons rfl (.cons rfl .nil))))))
     exact hNext1 ((k + 1)) _ _ ((by show i.n.toNat - (k + 1) < i.n.toNat - k; omega)) ⟨hA.sub ((.cons rfl (.cons rfl (.cons rfl (.cons rfl (.cons rfl .nil)))))), hM, (by omega)⟩
    ·
     have hs9 : alI i (k + 1) = alI i k := by rw [alI]; exact if_neg hc8
     refine Ends.skip (Ends.inBlock (Ends.region ?_))
     refine S.val hA (R.move rfl) rfl ?_; clear hA a; intro a hA
     refine S.val hA (R.addI rfl rfl (r := ((k : Int)) + 1) rfl (by omega)) rfl ?_; clear hA a; intro a hA
     refine S.val hA (R.assign rfl) rfl ?_; clear hA a; intro a hA
     refine S.done ?_
     rw [← hs9] at hA
     exact hNext1 ((k + 1)) _ _ ((by show i.n.toNat - (k + 1) < i.n.toNat - k; omega)) ⟨hA.sub ((.cons rfl (.cons rfl (.cons rfl (.cons rfl (.cons rfl .nil)))))), hM, (by omega)⟩
   ·
    refine Ends.drawn (Mem w nof [rd la lc l, pt b3 ((ints (flS i l m).1)) 3, pt b1 #[.int .i64 i.kind, .int .i64 i.n, .int .i64 i.cap, .slice ax3 i.wt.length cx3, .slice ax4 i.vl.length cx4, .slice ax5 i.cost.length cx5] 25]) (.cons (0, true) (.cons (1, true) (.cons (2, true) (.cons (3, true) (.cons (4, true) (.cons (5, true) (.cons (6, true) (.cons (7, true) (.cons (8, true) (.cons (9, true) (.cons (10, true) (.cons (11, true) (.cons (12, true) (.cons (13, true) (.cons (14, true) (.cons (15, true) (.cons (16, true) (.cons (17, true) (.cons (18, true) (.cons (19, true) (.cons (20, true) (.cons (21, true) (.cons (22, true) (.cons (23, true) (.cons (24, true) .nil))))))))))))))))))))))))) 25 mixed (by kernel_rfl) (by kernel_rfl) (by kernel_rfl) hM.drew ?_
    replace hM := hM.drew
    refine D.valF hA rfl (fun _ => R.fieldAddr (q := 3) fi25_3 rfl rfl rfl) rfl ?_; clear hA a; intro a hA
    refine D.val hA rfl (by kernel_rfl) (fun _ hM => R.load sz22 rfl (hM.cell (k := 2) rfl rfl)) rfl ?_; clear hA a; intro a hA
    refine D.valF hA rfl (fun _ => R.move rfl) rfl ?_; clear hA a; intro a hA
    refine D.valF hA rfl (fun _ => R.idxI hx3 (j := k) sl22 rfl rfl (by omega) (rfl)) rfl ?_; clear hA a; intro a hA
    refine D.val hA rfl (by kernel_rfl) (fun _ hM => R.loadI (hx3.mem hM) sz3 rfl (by omega)) rfl ?_; clear hA a; intro a hA
    refine D.valF hA rfl (fun _ => R.fieldAddr (q := 2) fi25_2 rfl rfl rfl) rfl ?_; clear hA a; intro a hA
    refine D.val hA rfl (by kernel_rfl) (fun _ hM => R.load sz3 rfl (hM.cell (k := 2) rfl rfl)) rfl ?_; clear hA a; intro a hA
    refine D.valF hA rfl (fun _ => R.leq rfl rfl) rfl ?_; clear hA a; intro a hA
    refine D.valF hA rfl (fun _ => R.move rfl) rfl ?_; clear hA a; intro a hA
    refine hA.split (d := 80) rfl ?_ ?_
    ·
     clear hA; intro hg9 hA
     refine D.valgF (dj := 80) hA rfl (by kernel_rfl) rfl (fun _ => R.move rfl) rfl ?_; clear hA a; intro a hA
     refine D.valgF (dj := 80) hA rfl (by kernel_rfl) rfl (fun _ => R.lss rfl rfl) rfl ?_; clear hA a; intro a hA
     refine D.valgF (dj := 80) hA rfl (by kernel_rfl) rfl (fun _ => R.move rfl) rfl ?_; clear hA a; intro a hA
     refine hA.split (d := 83) rfl ?_ ?_
     ·
      clear hA; intro hg10 hA
      refine D.no (dj := 83) hA rfl (by kernel_rfl) rfl rfl rfl ?_; clear hA a; intro a hA
      refine D.no (dj := 83) hA rfl (by kernel_rfl) rfl rfl rfl ?_; clear hA a; intro a hA
      refine D.no (dj := 83) hA rfl (by kernel_rfl) rfl rfl rfl ?_; clear hA a; intro a hA
      refine D.no (dj := 83) hA rfl (by kernel_rfl) rfl rfl rfl ?_; clear hA a; intro a hA
      refine D.no (dj := 83) hA rfl (by kernel_rfl) rfl rfl rfl ?_; clear hA a; intro a hA
      refine D.no (dj := 83) hA rfl (by kernel_rfl) rfl rfl rfl ?_; clear hA a; intro a hA
      refine D.no (dj := 83) hA rfl (by kernel_rfl) rfl rfl rfl ?_; clear hA a; intro a hA
      refine D.no (dj := 83) hA rfl (by kernel_rfl) rfl rfl rfl ?_; clear hA a; intro a hA
      refine D.no (dj := 83) hA rfl (by kernel_rfl) rfl rfl rfl ?_; clear hA a; intro a hA
      refine D.no (dj := 83) hA rfl (by kernel_rfl) rfl rfl rfl ?_; clear hA a; intro a hA
      refine D.no (dj := 83) hA rfl (by kernel_rfl) rfl rfl rfl ?_; clear hA a; intro a hA
      refine D.valgF (dj := 80) hA rfl (by kernel_rfl) rfl (fun _ => R.pickT rfl rfl) rfl ?_; clear hA a; intro a hA
      refine D.valF hA rfl (fun _ => R.pickT rfl rfl) rfl ?_; clear hA a; intro a hA
      refine D.done ?_
      replace hA : St 116 [(1, _), (3, _), (7, _), (9, _), (10, _), (96, _)] a := hA.sub ((.cons rfl (.cons rfl (.cons rfl (.cons rfl (.cons rfl (.cons rfl .nil)))))))
      exact hJ _ _ ⟨hA.sub (.cons rfl (.cons rfl (.cons rfl (.cons rfl (.cons rfl (.cons (by first | rfl | exact congrArg (fun b => some (Value.bool b)) (by first | exact decide_eq_decide.2 (by omega) | exact or_bool (by omega) | exact and_bool (by omega) | (simp; done) | (simp [hg9, hg10]; done) | (have h80 := hg9; (try simp at h80); have h81 := hg10; (try simp at h81); simp [h80, h81]; done) | exact (decide_eq_false (fun h9 => hg9 h9.1)).symm | exact (decide_eq_false (fun h9 => hg10 h9.1)).symm)) .nil)))))), hM⟩
     ·
      clear hA; intro hg10 hA
      refine D.valgF (dj := 83) hA rfl (by kernel_rfl) rfl (fun _ => R.fieldAddr (q := 4) fi25_4 rfl rfl rfl) rfl ?_; clear hA a; intro a hA
      refine D.valg (dj := 83) hA rfl (by kernel_rfl) (by kernel_rfl) rfl (fun _ hM => R.load sz22 rfl (hM.cell (k := 2) rfl rfl)) rfl ?_; clear hA a; intro a hA
      refine D.valgF (dj := 83) hA rfl (by kernel_rfl) rfl (fun _ => R.move rfl) rfl ?_; clear hA a; intro a hA
      refine D.valgF (dj := 83) hA rfl (by kernel_rfl) rfl (fun _ => R.idxI hx4 (j := k) sl22 rfl rfl (by omega) (rfl)) rfl ?_; clear hA a; intro a hA
      refine D.valg (dj := 83) hA rfl (by kernel_rfl) (by kernel_rfl) rfl (fun _ hM => R.loadI (hx4.mem hM) sz3 rfl (by omega)) rfl ?_; clear hA a; intro a hA
      refine D.valgF (dj := 83) hA rfl (by kernel_rfl) rfl (fun _ => R.fieldAddr (q := 4) fi25_4 rfl rfl rfl) rfl ?_; clear hA a; intro a hA
      refine D.valg (dj := 83) hA rfl (by kernel_rfl) (by kernel_rfl) rfl (fun _ hM => R.load sz22 rfl (hM.cell (k := 2) rfl rfl)) rfl ?_; clear hA a; intro a hA
      refine D.valgF (dj := 83) hA rfl (by kernel_rfl) rfl (fun _ => R.move rfl) rfl ?_; clear hA a; intro a hA
      refine D.valgF (dj := 83) hA rfl (by kernel_rfl) rfl (fun _ => R.idxI hx4 (j := (alI i k).toNat) sl22 rfl rfl (by omega) (rfl)) rfl ?_; clear hA a; intro a hA
      refine D.valg (dj := 83) hA rfl (by kernel_rfl) (by kernel_rfl) rfl (fun _ hM => R.loadI (hx4.mem hM) sz3 rfl (by omega)) rfl ?_; clear hA a; intro a hA
      refine D.valgF (dj := 83) hA rfl (by kernel_rfl) rfl (fun _ => R.gtr rfl rfl) rfl ?_; clear hA a; intro a hA
      refine D.valgF (dj := 80) hA rfl (by kernel_rfl) rfl (fun _ => R.pickF rfl rfl) rfl ?_; clear hA a; intro a hA
      refine D.valF hA rfl (fun _ => R.pickT rfl rfl) rfl ?_; clear hA a; intro a hA
      refine D.done ?_
      replace hA : St 116 [(1, _), (3, _), (7, _), (9, _), (10, _), (96, _)] a := hA.sub ((.cons rfl (.cons rfl (.cons rfl (.cons rfl (.cons rfl (.cons rfl .nil)))))))
      exact hJ _ _ ⟨hA.sub (.cons rfl (.cons rfl (.cons rfl (.cons rfl (.cons rfl (.cons (by first | rfl | exact congrArg (fun b => some (Value.bool b)) (by first | exact decide_eq_decide.2 (by omega) | exact or_bool (by omega) | exact and_bool (by omega) | (simp; done) | (simp [hg9, hg10]; done) | (have h80 := hg9; (try simp at h80); have h81 := hg10; (try simp at h81); simp [h80, h81]; done) | exact (decide_eq_false (fun h9 => hg9 h9.1)).symm | exact (decide_eq_false (fun h9 => hg10 h9.1)).symm)) .nil)))))), hM⟩
    ·
     clear hA; intro hg9 hA
     refine D.no (dj := 80) hA rfl (by kernel_rfl) rfl rfl rfl ?_; clear hA a; intro a hA
     refine D.no (dj := 80) hA rfl (by kernel_rfl) rfl rfl rfl ?_; clear hA a; intro a hA
     refine D.no (dj := 80) hA rfl (by kernel_rfl) rfl rfl rfl ?_; clear hA a; intro a hA
     refine D.noU (dj := 83) hA rfl (by kernel_rfl) rfl rfl ?_; clear hA a; intro a hA
     refine D.noU (dj := 83) hA rfl (by kernel_rfl) rfl rfl ?_; clear hA a; intro a hA
     refine D.noU (dj := 83) hA rfl (by kernel_rfl) rfl rfl ?_; clear hA a; intro a hA
     refine D.noU (dj := 83) hA rfl (by kernel_rfl) rfl rfl ?_; clear hA a; intro a hA
     refine D.noU (dj := 83) hA rfl (by kernel_rfl) rfl rfl ?_; clear hA a; intro a hA
     refine D.noU (dj := 83) hA rfl (by kernel_rfl) rfl rfl ?_; clear hA a; intro a hA
     refine D.noU (dj := 83) hA rfl (by kernel_rfl) rfl rfl ?_; clear hA a; intro a hA
     refine D.noU (dj := 83) hA rfl (by kernel_rfl) rfl rfl ?_; clear hA a; intro a hA
     refine D.noU (dj := 83) hA rfl (by kernel_rfl) rfl rfl ?_; clear hA a; intro a hA
     refine D.noU (dj := 83) hA rfl (by kernel_rfl) rfl rfl ?_; clear hA a; intro a hA
     refine D.noU (dj := 83) hA rfl (by kernel_rfl) rfl rfl ?_; clear hA a; intro a hA
     refine D.no (dj := 80) hA rfl (by kernel_rfl) rfl rfl rfl ?_; clear hA a; intro a hA
     refine D.valF hA rfl (fun _ => R.pickF rfl rfl) rfl ?_; clear hA a; intro a hA
     refine D.done ?_
     replace hA : St 116 [(1, _), (3, _), (7, _), (9, _), (10, _), (96, _)] a := hA.sub ((.cons rfl (.cons rfl (.cons rfl (.cons rfl (.cons rfl (.cons rfl .nil)))))))
     exact hJ _ _ ⟨hA.sub (.cons rfl (.cons rfl (.cons rfl (.cons rfl (.cons rfl (.cons (by first | rfl | exact congrArg (fun b => some (Value.bool b)) (by first | exact decide_eq_decide.2 (by omega) | exact or_bool (by omega) | exact and_bool (by omega) | (simp; done) | (simp [hg9]; done) | (have h80 := hg9; (try simp at h80); simp [h80]; done) | exact (decide_eq_false (fun h9 => hg9 h9.1)).symm)) .nil)))))), hM⟩
  ·
   have hab := hal k
   have hke : k = i.n.toNat := by omega
   refine Ends.exit rfl ?_
   replace hA : St 116 [(1, _), (3, _), (7, _), (9, _)] a := hA.sub ((.cons rfl (.cons rfl (.cons rfl (.cons rfl .nil)))))
   refine Ends.seq (Ends.seq ?_)
   refine Ends.cut (fun (a : Act) (wv : World) => St 116 [(1, .pointer (some ⟨b1, 0, none⟩)), (3, .slice (some ⟨b3, 0, none⟩) i.n.toNat i.n.toNat), (9, .int .i64 (alI i k)), (108, .bool (decide ((0 ≤ (alI i k) ∧ ((flS i l m).2.2) < (i.vl.getD ((alI i k).toNat) 0)))))] a ∧ Mem w nof [rd la lc l, pt b3 ((ints (flS i l m).1)) 3, pt b1 #[.int .i64 i.kind, .int .i64 i.n, .int .i64 i.cap, .slice ax3 i.wt.length cx3, .slice ax4 i.vl.length cx4, .slice ax5 i.cost.length cx5] 25] wv) ?_ (fun k2 hJ => ?_)
   ·
    clear hA hM a; rintro a w8 ⟨hA, hM⟩
    refine Ends.ite hA rfl (fun hc11 => ?_) (fun hc11 => ?_)
    ·
     have hk9 := hc11
     rw [hme, hke, ← hl] at hk9
     refine Ends.seq (Ends.region ?_)
     refine S.val hA (R.fieldAddr (q := 1) fi25_1 rfl rfl rfl) rfl ?_; clear hA a; intro a hA
     refine S.val hA (R.load sz3 rfl (hM.cell (k := 2) rfl rfl)) rfl ?_; clear hA a; intro a hA
     refine S.make hA hM Try.underlying22 info3 rfl rfl rfl (by omega) (by show (8 : Int) * _ ≤ _; omega) (by omega) rfl ?_; clear hA hM a; intro b12 w9 hb13 hM a hA
     replace hM : Mem _ _ [pt b12 (madeCells #[.int .i64 0] (i.n.toNat * 1)) 3, rd la lc l, pt b3 ((ints (flS i l m).1)) 3, pt b1 #[.int .i64 i.kind, .int .i64 i.n, .int .i64 i.cap, .slice ax3 i.wt.length cx3, .slice ax4 i.vl.length cx4, .slice ax5 i.cost.length cx5] 25] _ := hM
     rw [Nat.mul_one, made_ints] at hM
     replace hM : Mem _ _ [pt b12 ((ints (List.replicate i.n.toNat 0))) 3, rd la lc l, pt b3 ((ints (flS i l m).1)) 3, pt b1 #[.int .i64 i.kind, .int .i64 i.n, .int .i64 i.cap, .slice ax3 i.wt.length cx3, .slice ax4 i.vl.length cx4, .slice ax5 i.cost.length cx5] 25] _ := hM
     refine S.val hA (R.assign rfl) rfl ?_; clear hA a; intro a hA
     refine S.done ?_
     replace hA : St 116 [(3, _), (9, _)] a := hA.sub ((.cons rfl (.cons rfl .nil)))
     refine Ends.region ?_
     refine S.val hA (R.move rfl) rfl ?_; clear hA a; intro a hA
     refine S.val hA (R.move rfl) rfl ?_; clear hA a; intro a hA
     refine S.val hA (R.indexAddr (q := (alI i k).toNat) sl22 rfl rfl (by omega) (by omega)) rfl ?_; clear hA a; intro a hA
     refine S.store (k := 0) hA hM sz3 rfl rfl rfl rfl (ints_getD ((List.replicate i.n.toNat 0)) _ (by omega)) ?_; clear hM
     intro w10 hM
     rw [ints_set] at hM
     replace hM : Mem _ _ [pt b12 ((ints (((List.replicate i.n.toNat 0)).set ((alI i k).toNat) 1))) 3, rd la lc l, pt b3 ((ints (flS i l m).1)) 3, pt b1 #[.int .i64 i.kind, .int .i64 i.n, .int .i64 i.cap, .slice ax3 i.wt.length cx3, .slice ax4 i.vl.length cx4, .slice ax5 i.cost.length cx5] 25] _ := hM
     refine S.done ?_
     replace hA : St 116 [(3, _)] a := hA.sub ((.cons rfl .nil))
     refine Ends.seq (Ends.region ?_)
     refine S.val hA (R.move rfl) rfl ?_; clear hA a; intro a hA
     refine S.val hA (R.assign rfl) rfl ?_; clear hA a; intro a hA
     refine S.done ?_
     refine Ends.ret1 Try.func48 Try.results48 hA rfl ?_
     rw [hke] at hM
     have he : knS i = (List.replicate i.n.toNat 0).set (alI i i.n.toNat).toNat 1 := if_pos hk9
     have hkl := knS_len i
     rw [← he] at hM
     have hr := hM.ptRs (k := 0) (X := knS i) rfl (by omega)
     rw [hkl] at hr
     exact ⟨_, _, by rw [hkl], by rw [hkl]; exact hr, Mem.trans0 hbs hM.nilL⟩
    ·
     have hk9 := hc11
     rw [hme, hke, ← hl] at hk9
     refine Ends.skip (Ends.seq (Ends.region ?_))
     refine S.val hA (R.move rfl) rfl ?_; clear hA a; intro a hA
     refine S.val hA (R.assign rfl) rfl ?_; clear hA a; intro a hA
     refine S.done ?_
     replace hA : St 116 [(2, _)] a := hA.sub ((.cons rfl .nil))
     refine Ends.ret1 Try.func48 Try.results48 hA rfl ?_
     rw [hme] at hM
     have he : knS i = (flS i (byQ i.vl i.wt) i.n.toNat).1 := if_neg hk9
     rw [hl] at he
     have hkl := knS_len i
     rw [← he] at hM
     have hr := hM.ptRs (k := 1) (X := knS i) rfl (by omega)
     rw [hkl] at hr
     exact ⟨_, _, by rw [hkl], by rw [hkl]; exact hr, Mem.trans0 hbs hM.nilL⟩
   ·
    refine Ends.region ?_
    refine S.val hA (R.move rfl) rfl ?_; clear hA a; intro a hA
    refine S.val hA (R.geq rfl rfl) rfl ?_; clear hA a; intro a hA
    refine S.val hA (R.move rfl) rfl ?_; clear hA a; intro a hA
    refine hA.split (d := 100) rfl ?_ ?_
    ·
     clear hA; intro hg14 hA
     refine S.valg (dj := 100) hA (by kernel_rfl) rfl (R.fieldAddr (q := 4) fi25_4 rfl rfl rfl) rfl ?_; clear hA a; intro a hA
     refine S.valg (dj := 100) hA (by kernel_rfl) rfl (R.load sz22 rfl (hM.cell (k := 2) rfl rfl)) rfl ?_; clear hA a; intro a hA
     refine S.valg (dj := 100) hA (by kernel_rfl) rfl (R.move rfl) rfl ?_; clear hA a; intro a hA
     refine S.valg (dj := 100) hA (by kernel_rfl) rfl (R.idxI hx4 (j := (alI i k).toNat) sl22 rfl rfl (by omega) (rfl)) rfl ?_; clear hA a; intro a hA
     refine S.valg (dj := 100) hA (by kernel_rfl) rfl (R.loadI (hx4.mem hM) sz3 rfl (by omega)) rfl ?_; clear hA a; intro a hA
     refine S.valg (dj := 100) hA (by kernel_rfl) rfl (R.move rfl) rfl ?_; clear hA a; intro a hA
     refine S.valg (dj := 100) hA (by kernel_rfl) rfl (R.gtr rfl rfl) rfl ?_; clear hA a; intro a hA
     refine S.val hA (R.pickT rfl rfl) rfl ?_; clear hA a; intro a hA
     refine S.done ?_
     replace hA : St 116 [(1, _), (3, _), (9, _), (108, _)] a := hA.sub ((.cons rfl (.cons rfl (.cons rfl (.cons rfl .nil)))))
     exact hJ _ _ ⟨hA.sub (.cons rfl (.cons rfl (.cons rfl (.cons (by first | rfl | exact congrArg (fun b => some (Value.bool b)) (by first | exact decide_eq_decide.2 (by omega) | exact or_bool (by omega) | exact and_bool (by omega) | (simp; done) | (simp [hg14]; done) | (have h80 := hg14; (try simp at h80); simp [h80]; done) | exact (decide_eq_false (fun h9 => hg14 h9.1)).symm)) .nil)))), hM⟩
    ·
     clear hA; intro hg14 hA
     refine S.no (dj := 100) hA (by kernel_rfl) rfl rfl rfl ?_; clear hA a; intro a hA
     refine S.no (dj := 100) hA (by kernel_rfl) rfl rfl rfl ?_; clear hA a; intro a hA
     refine S.no (dj := 100) hA (by kernel_rfl) rfl rfl rfl ?_; clear hA a; intro a hA
     refine S.no (dj := 100) hA (by kernel_rfl) rfl rfl rfl ?_; clear hA a; intro a hA
     refine S.no (dj := 100) hA (by kernel_rfl) rfl rfl rfl ?_; clear hA a; intro a hA
     refine S.no (dj := 100) hA (by kernel_rfl) rfl rfl rfl ?_; clear hA a; intro a hA
     refine S.no (dj := 100) hA (by kernel_rfl) rfl rfl rfl ?_; clear hA a; intro a hA
     refine S.val hA (R.pickF rfl rfl) rfl ?_; clear hA a; intro a hA
     refine S.done ?_
     replace hA : St 116 [(1, _), (3, _), (9, _), (108, _)] a := hA.sub ((.cons rfl (.cons rfl (.cons rfl (.cons rfl .nil)))))
     exact hJ _ _ ⟨hA.sub (.cons rfl (.cons rfl (.cons rfl (.cons (by first | rfl | exact congrArg (fun b => some (Value.bool b)) (by first | exact decide_eq_decide.2 (by omega) | exact or_bool (by omega) | exact and_bool (by omega) | (simp; done) | (simp [hg14]; done) | (have h80 := hg14; (try simp at h80); simp [h80]; done) | exact (decide_eq_false (fun h9 => hg14 h9.1)).symm)) .nil)))), hM⟩
set_option maxRecDepth 100000 in
set_option maxHeartbeats 400000 in
theorem cheap10 (ax : Option Addr) (V : List Int) (cx : Nat) (ub : Nat) (U : List Bool) (X : List Int) (n : Nat) (hRn : V.length = n) (hus : usOK X n U) (w : World) (hx : IntSl w (.slice ax V.length cx) V) (hqub : w.heap[ub]? = some (.cells (boo U) 4 (0, 0))) :
  Calls Try.prog 64 #[.slice ax V.length cx, .slice (some ⟨ub, 0, none⟩) n n] w fun e w' => e = .returned (.int .i64 (chI V X n)) ∧ Below w.heap.size w w' := by
 have hbs := Below.refl (B := w.heap.size) w
 have hlR := hx.lenB
 have hUl := hus.1
 have hM := Mem.start w
 refine Calls.of_ends (vs := [.slice ax V.length cx, .slice (some ⟨ub, 0, none⟩) n n]) Try.func64 rfl Try.ntmps64 rfl ?_
 intro a hA
 replace hA : St 35 [(0, _), (1, _)] a := hA
 refine Ends.seq (Ends.region ?_)
 refine S.val hA (R.assign rfl) rfl ?_; clear hA a; intro a hA
 refine S.done ?_
 refine Ends.seq (Ends.region ?_)
 refine S.val hA (R.to (v := .int .i64 (chI V X 0)) (R.assign rfl) (rfl)) rfl ?_; clear hA a; intro a hA
 refine S.done ?_
 refine Ends.seq (Ends.seq (Ends.region ?_))
 refine S.val hA (R.move rfl) rfl ?_; clear hA a; intro a hA
 refine S.val hA (R.lenS Try.underlying22 rfl rfl) rfl ?_; clear hA a; intro a hA
 refine S.val hA (R.move rfl) rfl ?_; clear hA a; intro a hA
 refine S.done ?_
 refine Ends.block ?_
 refine Ends.loop (σ := Nat) (fun k (a : Act) (wv : World) => St 35 [(0, .slice ax V.length cx), (1, .slice (some ⟨ub, 0, none⟩) n n), (5, .int .i64 (chI V X k)), (8, .slice ax V.length cx), (9, .int .i64 ((V.length : Int))), (10, .int .i64 ((k : Int)))] a ∧ Mem w nof [] wv ∧ (k ≤ n)) (fun k => n - k) 0 ⟨hA.sub ((.cons rfl (.cons rfl (.cons rfl (.cons rfl (.cons rfl (.cons rfl .nil))))))), hM, (Nat.zero_le _)⟩ ?_
 clear hA hM a
 rintro k a w1 ⟨hA, hM, hkk⟩ hNext
 refine Ends.seq (Ends.region ?_)
 refine S.val hA (R.lss rfl rfl) rfl ?_; clear hA a; intro a hA
 refine S.done ?_
 refine Ends.seq ?_
 refine Ends.ite hA rfl (fun hc1 => ?_) (fun hc1 => ?_)
 ·
  have hcb := chI_bd V X k
  have hu := hus.2 k (by omega)
  refine Ends.skip (Ends.seq (Ends.block (Ends.seq (Ends.region ?_))))
  refine S.val hA (R.move rfl) rfl ?_; clear hA a; intro a hA
  refine S.val hA (R.idxI hx (j := k) sl22 rfl rfl (by omega) (rfl)) rfl ?_; clear hA a; intro a hA
  refine S.val hA (R.loadI (hx.mem hM) sz3 rfl (by omega)) rfl ?_; clear hA a; intro a hA
  refine S.val hA (R.assign rfl) rfl ?_; clear hA a; intro a hA
  refine S.val hA (R.assign rfl) rfl ?_; clear hA a; intro a hA
  refine S.done ?_
  replace hA : St 35 [(0, _), (1, _), (5, _), (6, _), (7, _), (8, _), (9, _), (10, _)] a := hA.sub ((.cons rfl (.cons rfl (.cons rfl (.cons rfl (.cons rfl (.cons rfl (.cons rfl (.cons rfl .nil)))))))))
  refine Ends.seq ?_
  refine Ends.cut (fun (a : Act) (wv : World) => St 35 [(0, .slice ax V.length cx), (1, .slice (some ⟨ub, 0, none⟩) n n), (5, .int .i64 (chI V X k)), (6, .int .i64 ((k : Int))), (8, .slice ax V.length cx), (9, .int .i64 ((V.length : Int))), (10, .int .i64 ((k : Int))), (31, .bool (decide ((¬ ((k : Int) ∈ X) ∧ ((chI V X k) < 0 ∨ (V.getD k 0) < (V.getD ((chI V X k).toNat) 0))))))] a ∧ Mem w nof [] wv) ?_ (fun k2 hJ => ?_)
  ·
   clear hA hM a; rintro a w2 ⟨hA, hM⟩
   refine Ends.ite hA rfl (fun hc2 => ?_) (fun hc2 => ?_)
   ·
    have hs9 : chI V X (k + 1) = (k : Int) := by
     rw [chI]; exact if_pos hc2
    refine Ends.region ?_
    refine S.val hA (R.move rfl) rfl ?_; clear hA a; intro a hA
    refine S.val hA (R.to (v := .int .i64 (chI V X (k + 1))) (R.assign rfl) (congrArg (Value.int .i64) hs9.symm)) rfl ?_; clear hA a; intro a hA
    refine S.done ?_
    refine Ends.inBlock (Ends.region ?_)
    refine S.val hA (R.addI rfl rfl (r := ((k : Int)) + 1) rfl (by omega)) rfl ?_; clear hA a; intro a hA
    refine S.val hA (R.move rfl) rfl ?_; clear hA a; intro a hA
    refine S.done ?_
    replace hA : St 35 [(0, _), (1, _), (5, _), (8, _), (9, _), (10, _)] a := hA.sub ((.cons rfl (.cons rfl (.cons rfl (.cons rfl (.cons rfl (.cons rfl .nil)))))))
    exact hNext ((k + 1)) _ _ ((by show n - (k + 1) < n - k; omega)) ⟨hA.sub ((.cons rfl (.cons rfl (.cons rfl (.cons rfl (.cons rfl (.cons rfl .nil))))))), hM, (by omega)⟩
   ·
    have hs9 : chI V X (k + 1) = chI V X k := by
     rw [chI]; exact if_neg hc2
    refine Ends.skip (Ends.inBlock (Ends.region ?_))
    refine S.val hA (R.addI rfl rfl (r := ((k : Int)) + 1) rfl (by omega)) rfl ?_; clear hA a; intro a hA
    refine S.val hA (R.move rfl) rfl ?_; clear hA a; intro a hA
    refine S.done ?_
    rw [← hs9] at hA
    exact hNext ((k + 1)) _ _ ((by show n - (k + 1) < n - k; omega)) ⟨hA.sub ((.cons rfl (.cons rfl (.cons rfl (.cons rfl (.cons rfl (.cons rfl .nil))))))), hM, (by omega)⟩
  ·
   refine Ends.region ?_
   refine S.val hA (R.move rfl) rfl ?_; clear hA a; intro a hA
   refine S.val hA (R.move rfl) rfl ?_; clear hA a; intro a hA
   refine S.val hA (R.indexAddr (q := k) sl68 rfl rfl (by omega) (by omega)) rfl ?_; clear hA a; intro a hA
   refine S.val hA (R.to (v := .bool (decide ((k : Int) ∈ X))) (R.load sz4 rfl (hM.cellB hqub (boo_get U k (by omega)))) (congrArg Value.bool hu)) rfl ?_; clear hA a; intro a hA
   refine S.val hA (R.notD rfl) rfl ?_; clear hA a; intro a hA
   refine S.val hA (R.move rfl) rfl ?_; clear hA a; intro a hA
   refine hA.split (d := 20) rfl ?_ ?_
   ·
    clear hA; intro hg3 hA
    refine S.valg (dj := 20) hA (by kernel_rfl) rfl (R.move rfl) rfl ?_; clear hA a; intro a hA
    refine S.valg (dj := 20) hA (by kernel_rfl) rfl (R.lss rfl rfl) rfl ?_; clear hA a; intro a hA
    refine S.valg (dj := 20) hA (by kernel_rfl) rfl (R.move rfl) rfl ?_; clear hA a; intro a hA
    refine hA.split (d := 23) rfl ?_ ?_
    ·
     clear hA; intro hg4 hA
     refine S.no (dj := 23) hA (by kernel_rfl) rfl rfl rfl ?_; clear hA a; intro a hA
     refine S.no (dj := 23) hA (by kernel_rfl) rfl rfl rfl ?_; clear hA a; intro a hA
     refine S.no (dj := 23) hA (by kernel_rfl) rfl rfl rfl ?_; clear hA a; intro a hA
     refine S.no (dj := 23) hA (by kernel_rfl) rfl rfl rfl ?_; clear hA a; intro a hA
     refine S.no (dj := 23) hA (by kernel_rfl) rfl rfl rfl ?_; clear hA a; intro a hA
     refine S.no (dj := 23) hA (by kernel_rfl) rfl rfl rfl ?_; clear hA a; intro a hA
     refine S.valg (dj := 20) hA (by kernel_rfl) rfl (R.pickT rfl rfl) rfl ?_; clear hA a; intro a hA
     refine S.val hA (R.pickT rfl rfl) rfl ?_; clear hA a; intro a hA
     refine S.done ?_
     replace hA : St 35 [(0, _), (1, _), (5, _), (6, _), (8, _), (9, _), (10, _), (31, _)] a := hA.sub ((.cons rfl (.cons rfl (.cons rfl (.cons rfl (.cons rfl (.cons rfl (.cons rfl (.cons rfl .nil)))))))))
     exact hJ _ _ ⟨hA.sub (.cons rfl (.cons rfl (.cons rfl (.cons rfl (.cons rfl (.cons rfl (.cons rfl (.cons (by first | rfl | exact congrArg (fun b => some (Value.bool b)) (by first | exact decide_eq_decide.2 (by omega) | exact or_bool (by omega) | exact and_bool (by omega) | (simp; done) | (simp [hg3, hg4]; done) | (have h80 := hg3; (try simp at h80); have h81 := hg4; (try simp at h81); simp [h80, h81]; done) | exact (decide_eq_false (fun h9 => hg3 h9.1)).symm | exact (decide_eq_false (fun h9 => hg4 h9.1)).symm)) .nil)))))))), hM⟩
    ·
     clear hA; intro hg4 hA
     refine S.valg (dj := 23) hA (by kernel_rfl) rfl (R.move rfl) rfl ?_; clear hA a; intro a hA
     refine S.valg (dj := 23) hA (by kernel_rfl) rfl (R.move rfl) rfl ?_; clear hA a; intro a hA
     refine S.valg (dj := 23) hA (by kernel_rfl) rfl (R.move rfl) rfl ?_; clear hA a; intro a hA
     refine S.valg (dj := 23) hA (by kernel_rfl) rfl (R.idxI hx (j := (chI V X k).toNat) sl22 rfl rfl (by omega) (rfl)) rfl ?_; clear hA a; intro a hA
     refine S.valg (dj := 23) hA (by kernel_rfl) rfl (R.loadI (hx.mem hM) sz3 rfl (by omega)) rfl ?_; clear hA a; intro a hA
     refine S.valg (dj := 23) hA (by kernel_rfl) rfl (R.lss rfl rfl) rfl ?_; clear hA a; intro a hA
     refine S.valg (dj := 20) hA (by kernel_rfl) rfl (R.pickF rfl rfl) rfl ?_; clear hA a; intro a hA
     refine S.val hA (R.pickT rfl rfl) rfl ?_; clear hA a; intro a hA
     refine S.done ?_
     replace hA : St 35 [(0, _), (1, _), (5, _), (6, _), (8, _), (9, _), (10, _), (31, _)] a := hA.sub ((.cons rfl (.cons rfl (.cons rfl (.cons rfl (.cons rfl (.cons rfl (.cons rfl (.cons rfl .nil)))))))))
     exact hJ _ _ ⟨hA.sub (.cons rfl (.cons rfl (.cons rfl (.cons rfl (.cons rfl (.cons rfl (.cons rfl (.cons (by first | rfl | exact congrArg (fun b => some (Value.bool b)) (by first | exact decide_eq_decide.2 (by omega) | exact or_bool (by omega) | exact and_bool (by omega) | (simp; done) | (simp [hg3, hg4]; done) | (have h80 := hg3; (try simp at h80); have h81 := hg4; (try simp at h81); simp [h80, h81]; done) | exact (decide_eq_false (fun h9 => hg3 h9.1)).symm | exact (decide_eq_false (fun h9 => hg4 h9.1)).symm)) .nil)))))))), hM⟩
   ·
    clear hA; intro hg3 hA
    refine S.no (dj := 20) hA (by kernel_rfl) rfl rfl rfl ?_; clear hA a; intro a hA
    refine S.no (dj := 20) hA (by kernel_rfl) rfl rfl rfl ?_; clear hA a; intro a hA
    refine S.no (dj := 20) hA (by kernel_rfl) rfl rfl rfl ?_; clear hA a; intro a hA
    refine S.noU (dj := 23) hA (by kernel_rfl) rfl rfl ?_; clear hA a; intro a hA
    refine S.noU (dj := 23) hA (by kernel_rfl) rfl rfl ?_; clear hA a; intro a hA
    refine S.noU (dj := 23) hA (by kernel_rfl) rfl rfl ?_; clear hA a; intro a hA
    refine S.noU (dj := 23) hA (by kernel_rfl) rfl rfl ?_; clear hA a; intro a hA
    refine S.noU (dj := 23) hA (by kernel_rfl) rfl rfl ?_; clear hA a; intro a hA
    refine S.noU (dj := 23) hA (by kernel_rfl) rfl rfl ?_; clear hA a; intro a hA
    refine S.no (dj := 20) hA (by kernel_rfl) rfl rfl rfl ?_; clear hA a; intro a hA
    refine S.val hA (R.pickF rfl rfl) rfl ?_; clear hA a; intro a hA
    refine S.done ?_
    replace hA : St 35 [(0, _), (1, _), (5, _), (6, _), (8, _), (9, _), (10, _), (31, _)] a := hA.sub ((.cons rfl (.cons rfl (.cons rfl (.cons rfl (.cons rfl (.cons rfl (.cons rfl (.cons rfl .nil)))))))))
    exact hJ _ _ ⟨hA.sub (.cons rfl (.cons rfl (.cons rfl (.cons rfl (.cons rfl (.cons rfl (.cons rfl (.cons (by first | rfl | exact congrArg (fun b => some (Value.bool b)) (by first | exact decide_eq_decide.2 (by omega) | exact or_bool (by omega) | exact and_bool (by omega) | (simp; done) | (simp [hg3]; done) | (have h80 := hg3; (try simp at h80); simp [h80]; done) | exact (decide_eq_false (fun h9 => hg3 h9.1)).symm)) .nil)))))))), hM⟩
 ·
  have hke : k = n := by omega
  refine Ends.exit rfl ?_
  replace hA : St 35 [(5, _)] a := hA.sub ((.cons rfl .nil))
  refine Ends.seq (Ends.region ?_)
  refine S.val hA (R.move rfl) rfl ?_; clear hA a; intro a hA
  refine S.val hA (R.assign rfl) rfl ?_; clear hA a; intro a hA
  refine S.done ?_
  refine Ends.ret1 Try.func64 Try.results64 hA rfl ?_
  exact ⟨by rw [hke], Mem.trans0 hbs hM.nilL⟩
set_option maxRecDepth 100000 in
set_option maxHeartbeats 400000 in
theorem rows10 (i : Ins) (ax3 : Option Addr) (cx3 : Nat) (ax4 : Option Addr) (cx4 : Nat) (ax5 : Option Addr) (cx5 : Nat) (hF : InF i) (hk1 : ¬ i.kind = 1) (w : World) (hx3 : IntSl w (.slice ax3 i.wt.length cx3) i.wt) (hx4 : IntSl w (.slice ax4 i.vl.length cx4) i.vl) (hx5 : RowsV w (.slice ax5 i.cost.length cx5) i.cost) :
  Calls Try.prog 47 #[.agg #[.int .i64 i.kind, .int .i64 i.n, .int .i64 i.cap, .slice ax3 i.wt.length cx3, .slice ax4 i.vl.length cx4, .slice ax5 i.cost.length cx5]] w fun e w' => ∃ a c, e = .returned (.slice a ((rwA i (i.n.toNat - frm i))).length c) ∧ IntSl w' (.slice a ((rwA i (i.n.toNat - frm i))).length c) ((rwA i (i.n.toNat - frm i))) ∧ Below w.heap.size w w' := by
 have hbs := Below.refl (B := w.heap.size) w
 have f1 := hF.n1
 have f3 := hF.n64
 have f4 := hF.n24 hk1
 have f7 := hF.cost
 rw [if_neg hk1] at f7
 have hrow := fun r h => rowLn hF hk1 (r := r) h
 have hfl := frm_le i
 have hin := rwA_inc (i := i) (by omega)
 have hrp : (List.replicate i.n.toNat false).length = i.n.toNat := List.length_replicate
 have hM := Mem.start w
 refine Calls.of_ends (vs := [.agg #[.int .i64 i.kind, .int .i64 i.n, .int .i64 i.cap, .slice ax3 i.wt.length cx3, .slice ax4 i.vl.length cx4, .slice ax5 i.cost.length cx5]]) Try.func47 rfl Try.ntmps47 rfl ?_
 intro a hA
 replace hA : St 49 [(0, _)] a := hA
 refine Ends.seq (Ends.region ?_)
 refine S.box hA hM rfl rfl ?_; clear hA hM a; intro b1 w1 hb2 hM a hA
 replace hM : Mem _ _ [pt b1 #[.int .i64 i.kind, .int .i64 i.n, .int .i64 i.cap, .slice ax3 i.wt.length cx3, .slice ax4 i.vl.length cx4, .slice ax5 i.cost.length cx5] 25] _ := hM
 refine S.val hA (R.assign rfl) rfl ?_; clear hA a; intro a hA
 refine S.done ?_
 refine Ends.seq (Ends.region ?_)
 refine S.val hA (R.fieldAddr (q := 1) fi25_1 rfl rfl rfl) rfl ?_; clear hA a; intro a hA
 refine S.val hA (R.load sz3 rfl (hM.cell (k := 0) rfl rfl)) rfl ?_; clear hA a; intro a hA
 refine S.make hA hM Try.underlying68 info4 rfl rfl rfl (by omega) (by show (1 : Int) * _ ≤ _; omega) (by omega) rfl ?_; clear hA hM a; intro b3 w2 hb4 hM a hA
 replace hM : Mem _ _ [pt b3 (madeCells #[.bool false] (i.n.toNat * 1)) 4, pt b1 #[.int .i64 i.kind, .int .i64 i.n, .int .i64 i.cap, .slice ax3 i.wt.length cx3, .slice ax4 i.vl.length cx4, .slice ax5 i.cost.length cx5] 25] _ := hM
 rw [Nat.mul_one, made_boo] at hM
 replace hM : Mem _ _ [pt b3 ((boo (List.replicate i.n.toNat false))) 4, pt b1 #[.int .i64 i.kind, .int .i64 i.n, .int .i64 i.cap, .slice ax3 i.wt.length cx3, .slice ax4 i.vl.length cx4, .slice ax5 i.cost.length cx5] 25] _ := hM
 refine S.val hA (R.assign rfl) rfl ?_; clear hA a; intro a hA
 refine S.done ?_
 replace hA : St 49 [(1, _), (3, _)] a := hA.sub ((.cons rfl (.cons rfl .nil)))
 refine Ends.seq (Ends.region ?_)
 refine S.val hA (R.assign rfl) rfl ?_; clear hA a; intro a hA
 refine S.done ?_
 refine Ends.seq (Ends.seq (Ends.region ?_))
 refine S.val hA (R.fieldAddr (q := 0) fi25_0 rfl rfl rfl) rfl ?_; clear hA a; intro a hA
 refine S.val hA (R.load sz3 rfl (hM.cell (k := 1) rfl rfl)) rfl ?_; clear hA a; intro a hA
 refine S.val hA (R.eql rfl rfl) rfl ?_; clear hA a; intro a hA
 refine S.done ?_
 refine Ends.ite hA rfl (fun hc5 => ?_) (fun hc5 => ?_)
 ·
  have hk3 := hc5
  have hfr : frm i = 1 := if_pos hk3
  refine Ends.seq (Ends.region ?_)
  refine S.val hA (R.move rfl) rfl ?_; clear hA a; intro a hA
  refine S.buildSl (cells := #[.int .i64 0]) hA hM Try.underlying22 info3 rfl rfl rfl rfl (by kernel_rfl) rfl ?_; clear hA hM a; intro b6 w3 hb7 hM a hA
  replace hM : Mem _ _ [pt b6 #[.int .i64 0] 3, pt b3 ((boo (List.replicate i.n.toNat false))) 4, pt b1 #[.int .i64 i.kind, .int .i64 i.n, .int .i64 i.cap, .slice ax3 i.wt.length cx3, .slice ax4 i.vl.length cx4, .slice ax5 i.cost.length cx5] 25] _ := hM
  replace hM := hM.ownNil 3 1
  replace hM : Mem _ _ [own 3 1 (.slice none ((([] : List Int)).length) 0) ((([] : List Int)).length) ((([] : List Int)).map (Value.int .i64)), pt b6 #[.int .i64 0] 3, pt b3 ((boo (List.replicate i.n.toNat false))) 4, pt b1 #[.int .i64 i.kind, .int .i64 i.n, .int .i64 i.cap, .slice ax3 i.wt.length cx3, .slice ax4 i.vl.length cx4, .slice ax5 i.cost.length cx5] 25] _ := hM
  refine S.append (k := 0) (k2 := 1) hA hM rfl rfl Try.underlying22 info3 rfl rfl rfl rfl rfl rfl rfl rfl rfl (by first | decide | (unfold maxLen; omega) | (show (_ + 1) * 8 ≤ (140737488355328 : Nat); omega) | omega) (by first | decide | (unfold maxLen; omega) | (show (_ + 1) * 8 ≤ (140737488355328 : Nat); omega) | omega) rfl ?_; clear hA hM a; intro a8 c9 w4 hM a hA
  replace hM : Mem _ _ [own 3 1 (.slice a8 (((([] : List Int)).length) + 1) c9) (((([] : List Int)).length) + 1) ((([] : List Int)).map (Value.int .i64) ++ [.int .i64 0]), pt b6 #[.int .i64 0] 3, pt b3 ((boo (List.replicate i.n.toNat false))) 4, pt b1 #[.int .i64 i.kind, .int .i64 i.n, .int .i64 i.cap, .slice ax3 i.wt.length cx3, .slice ax4 i.vl.length cx4, .slice ax5 i.cost.length cx5] 25] _ := hM
  have hl10 : ((([] : List Int)).length) + 1 = (([] : List Int) ++ [0]).length := by simp
  rw [hl10, show (([] : List Int)).map (Value.int .i64) ++ [.int .i64 0] = (([] : List Int) ++ [0]).map (Value.int .i64) by simp] at hM; rw [hl10] at hA
  clear hl10
  replace hM := hM.drop 1
  replace hM : Mem _ _ [own 3 1 (.slice a8 (((([] : List Int) ++ [0])).length) c9) (((([] : List Int) ++ [0])).length) (((([] : List Int) ++ [0])).map (Value.int .i64)), pt b3 ((boo (List.replicate i.n.toNat false))) 4, pt b1 #[.int .i64 i.kind, .int .i64 i.n, .int .i64 i.cap, .slice ax3 i.wt.length cx3, .slice ax4 i.vl.length cx4, .slice ax5 i.cost.length cx5] 25] _ := hM
  refine S.val hA (R.assign rfl) rfl ?_; clear hA a; intro a hA
  refine S.done ?_
  replace hA : St 49 [(1, _), (3, _), (4, _)] a := hA.sub ((.cons rfl (.cons rfl (.cons rfl .nil))))
  refine Ends.region ?_
  refine S.val hA (R.move rfl) rfl ?_; clear hA a; intro a hA
  refine S.val hA (R.indexAddr (q := 0) sl68 rfl rfl (by omega) (rfl)) rfl ?_; clear hA a; intro a hA
  refine S.store (k := 1) hA hM sz4 rfl rfl rfl rfl (boo_get _ _ (by omega)) ?_; clear hM
  intro w5 hM
  rw [boo_set] at hM
  replace hM : Mem _ _ [own 3 1 (.slice a8 (((([] : List Int) ++ [0])).length) c9) (((([] : List Int) ++ [0])).length) (((([] : List Int) ++ [0])).map (Value.int .i64)), pt b3 ((boo (((List.replicate i.n.toNat false)).set 0 true))) 4, pt b1 #[.int .i64 i.kind, .int .i64 i.n, .int .i64 i.cap, .slice ax3 i.wt.length cx3, .slice ax4 i.vl.length cx4, .slice ax5 i.cost.length cx5] 25] _ := hM
  refine S.done ?_
  refine Ends.seq (Ends.block ?_)
  replace hM := hM.front (k := 2) rfl
  replace hM := hM.front (k := 2) rfl
  replace hM := hM.front (k := 2) rfl
  refine Ends.loop (σ := Nat × List Int × Option Addr × Nat × List Bool) (fun (m, X, ya, yc, U) (a : Act) (wv : World) => St 49 [(1, .pointer (some ⟨b1, 0, none⟩)), (3, .slice (some ⟨b3, 0, none⟩) i.n.toNat i.n.toNat), (4, .slice ya X.length yc)] a ∧ Mem w nof [own 3 1 (.slice ya X.length yc) X.length (X.map (Value.int .i64)), pt b3 ((boo U)) 4, pt b1 #[.int .i64 i.kind, .int .i64 i.n, .int .i64 i.cap, .slice ax3 i.wt.length cx3, .slice ax4 i.vl.length cx4, .slice ax5 i.cost.length cx5] 25] wv ∧ (frm i + m ≤ i.n.toNat) ∧ (X = rwA i m) ∧ (usOK X i.n.toNat U)) (fun (m, X, ya, yc, U) => i.n.toNat - m) ((0, [0], a8, c9, (((List.replicate i.n.toNat false)).set 0 true))) ⟨hA.sub ((.cons rfl (.cons rfl (.cons rfl .nil)))), hM, (by omega), (if_pos hk3).symm, (us_zero (by omega))⟩ ?_
  clear hA hM a
  rintro ⟨m, X, ya, yc, U⟩ a w6 ⟨hA, hM, hm, hX, hus⟩ hNext
  refine Ends.seq (Ends.seq (Ends.region ?_))
  refine S.val hA (R.move rfl) rfl ?_; clear hA a; intro a hA
  refine S.val hA (R.lenS Try.underlying22 rfl rfl) rfl ?_; clear hA a; intro a hA
  refine S.val hA (R.fieldAddr (q := 1) fi25_1 rfl rfl rfl) rfl ?_; clear hA a; intro a hA
  refine S.val hA (R.load sz3 rfl (hM.cell (k := 2) rfl rfl)) rfl ?_; clear hA a; intro a hA
  refine S.val hA (R.lss rfl rfl) rfl ?_; clear hA a; intro a hA
  refine S.done ?_
  replace hA : St 49 [(1, _), (3, _), (4, _), (22, _)] a := hA.sub ((.cons rfl (.cons rfl (.cons rfl (.cons rfl .nil)))))
  refine Ends.ite hA rfl (fun hc11 => ?_) (fun hc11 => ?_)
  ·
   have hXl : X.length = frm i + m := by rw [hX, rwA_len]
   have hinc := hin m hm
   rw [← hX] at hinc
   have hUl := hus.1
   refine Ends.skip (Ends.block (Ends.seq (Ends.region ?_)))
   refine S.val hA (R.move rfl) rfl ?_; clear hA a; intro a hA
   refine S.val hA (R.lenS Try.underlying22 rfl rfl) rfl ?_; clear hA a; intro a hA
   refine S.val hA (R.assign rfl) rfl ?_; clear hA a; intro a hA
   refine S.done ?_
   refine Ends.seq (Ends.seq (Ends.region ?_))
   refine S.val hA (R.fieldAddr (q := 0) fi25_0 rfl rfl rfl) rfl ?_; clear hA a; intro a hA
   refine S.val hA (R.load sz3 rfl (hM.cell (k := 2) rfl rfl)) rfl ?_; clear hA a; intro a hA
   refine S.val hA (R.eql rfl rfl) rfl ?_; clear hA a; intro a hA
   refine S.done ?_
   replace hA : St 49 [(1, _), (3, _), (4, _), (5, _), (27, _)] a := hA.sub ((.cons rfl (.cons rfl (.cons rfl (.cons rfl (.cons rfl .nil))))))
   refine Ends.ite hA rfl (fun hc12 => ?_) (fun hc12 => ?_)
   ·
    have hlast : 0 ≤ X.getD (X.length - 1) 0 ∧ X.getD (X.length - 1) 0 < (i.n.toNat : Int) := hinc.1.2 _ (getD_mem (by omega))
    refine Ends.region ?_
    refine S.val hA (R.move rfl) rfl ?_; clear hA a; intro a hA
    refine S.val hA (R.move rfl) rfl ?_; clear hA a; intro a hA
    refine S.val hA (R.lenS Try.underlying22 rfl rfl) rfl ?_; clear hA a; intro a hA
    refine S.val hA (R.subI rfl rfl (r := ((X.length - 1 : Nat) : Int)) (by omega) (by omega)) rfl ?_; clear hA a; intro a hA
    refine S.val hA (R.idxI (hM.rsl (k := 0) rfl) (j := (X.length - 1)) sl22 rfl rfl (by omega) (by omega)) rfl ?_; clear hA a; intro a hA
    refine S.val hA (R.loadI (hM.rsl (k := 0) rfl) sz3 rfl (by omega)) rfl ?_; clear hA a; intro a hA
    refine S.val hA (R.assign rfl) rfl ?_; clear hA a; intro a hA
    refine S.done ?_
    replace hA : St 49 [(1, _), (3, _), (4, _), (5, _)] a := hA.sub ((.cons rfl (.cons rfl (.cons rfl (.cons rfl .nil)))))
    refine Ends.seq ?_
    have hrl := hrow (X.getD (X.length - 1) 0).toNat (by omega)
    obtain ⟨Rw, hRw0⟩ : ∃ Rw, Rw = i.cost.getD (X.getD (X.length - 1) 0).toNat [] := ⟨_, rfl⟩
    have hRw : rowOf i X = Rw := by rw [hRw0]; unfold rowOf; rw [if_pos hk3]
    obtain ⟨q, hq⟩ : ∃ q : Nat, chI Rw X i.n.toNat = (q : Int) := ⟨(chI Rw X i.n.toNat).toNat, by have := chI_pos Rw X i.n.toNat (free_col (by omega)); omega⟩
    have hqn : q < i.n.toNat := by have := chI_bd Rw X i.n.toNat; omega
    have hst : X ++ [(q : Int)] = rwA i (m + 1) := by rw [rwA, ← hX, hRw, hq]
    have hus2 := us_add hus (q := q) (by omega)
    refine Ends.region ?_
    refine S.val hA (R.fieldAddr (q := 5) fi25_5 rfl rfl rfl) rfl ?_; clear hA a; intro a hA
    refine S.val hA (R.load sz23 rfl (hM.cell (k := 2) rfl rfl)) rfl ?_; clear hA a; intro a hA
    refine S.val hA (R.move rfl) rfl ?_; clear hA a; intro a hA
    refine S.val hA (R.idxR hx5 (j := (X.getD ((X.length - 1)) 0).toNat) sl23 rfl rfl (by omega) (rfl)) rfl ?_; clear hA a; intro a hA
    obtain ⟨ra13, rc14, hrow15, hld16⟩ := hx5.atP (i := (X.getD ((X.length - 1)) 0).toNat) (by omega)
    refine S.val hA (hld16 _ _ _ _ _ _ hM sz22 rfl) rfl ?_; clear hA a; intro a hA
    refine S.val hA (R.move rfl) rfl ?_; clear hA a; intro a hA
    refine S.call hA (R.callF Try.func64 rfl rfl rfl) rfl ((by have h9 := cheap10 ra13 Rw rc14 b3 U X i.n.toNat (by rw [hRw0]; exact hrl) hus _ (by rw [hRw0]; exact hrow15.mem hM) (hM.block (k := 1) rfl); rw [hq, hRw0] at h9; exact h9)) ?_; clear hA a
    rintro e w7 ⟨rfl, hb⟩
    replace hM := hM.callB hb; clear hb
    refine ⟨.int .i64 ((q : Int)), rfl, fun a hA => ?_⟩
    refine S.val hA (R.assign rfl) rfl ?_; clear hA a; intro a hA
    refine S.done ?_
    replace hA : St 49 [(1, _), (3, _), (4, _), (6, _)] a := hA.sub ((.cons rfl (.cons rfl (.cons rfl (.cons rfl .nil)))))
    refine Ends.seq (Ends.region ?_)
    refine S.val hA (R.move rfl) rfl ?_; clear hA a; intro a hA
    refine S.val hA (R.move rfl) rfl ?_; clear hA a; intro a hA
    refine S.val hA (R.indexAddr (q := q) sl68 rfl rfl (by omega) (by omega)) rfl ?_; clear hA a; intro a hA
    refine S.store (k := 1) hA hM sz4 rfl rfl rfl rfl (boo_get _ _ (by omega)) ?_; clear hM
    intro w8 hM
    rw [boo_set] at hM
    replace hM : Mem _ _ [own 3 1 (.slice ya X.length yc) X.length (X.map (Value.int .i64)), pt b3 ((boo (U.set q true))) 4, pt b1 #[.int .i64 i.kind, .int .i64 i.n, .int .i64 i.cap, .slice ax3 i.wt.length cx3, .slice ax4 i.vl.length cx4, .slice ax5 i.cost.length cx5] 25] _ := hM
    refine S.done ?_
    refine Ends.region ?_
    refine S.val hA (R.move rfl) rfl ?_; clear hA a; intro a hA
    refine S.val hA (R.move rfl) rfl ?_; clear hA a; intro a hA
    refine S.buildSl (cells := #[.int .i64 ((q : Int))]) hA hM Try.underlying22 info3 rfl rfl rfl rfl (by kernel_rfl) rfl ?_; clear hA hM a; intro b17 w9 hb18 hM a hA
    replace hM : Mem _ _ [pt b17 #[.int .i64 ((q : Int))] 3, own 3 1 (.slice ya X.length yc) X.length (X.map (Value.int .i64)), pt b3 ((boo (U.set q true))) 4, pt b1 #[.int .i64 i.kind, .int .i64 i.n, .int .i64 i.cap, .slice ax3 i.wt.length cx3, .slice ax4 i.vl.length cx4, .slice ax5 i.cost.length cx5] 25] _ := hM
    refine S.append (k := 1) (k2 := 0) hA hM rfl rfl Try.underlying22 info3 rfl rfl rfl rfl rfl rfl rfl rfl rfl (by first | decide | (unfold maxLen; omega) | (show (_ + 1) * 8 ≤ (140737488355328 : Nat); omega) | omega) (by first | decide | (unfold maxLen; omega) | (show (_ + 1) * 8 ≤ (140737488355328 : Nat); omega) | omega) rfl ?_; clear hA hM a; intro a19 c20 w10 hM a hA
    replace hM : Mem _ _ [pt b17 #[.int .i64 ((q : Int))] 3, own 3 1 (.slice a19 (X.length + 1) c20) (X.length + 1) (X.map (Value.int .i64) ++ [.int .i64 ((q : Int))]), pt b3 ((boo (U.set q true))) 4, pt b1 #[.int .i64 i.kind, .int .i64 i.n, .int .i64 i.cap, .slice ax3 i.wt.length cx3, .slice ax4 i.vl.length cx4, .slice ax5 i.cost.length cx5] 25] _ := hM
    have hl21 : X.length + 1 = (X ++ [(q : Int)]).length := by simp
    rw [hl21, show X.map (Value.int .i64) ++ [.int .i64 ((q : Int))] = (X ++ [(q : Int)]).map (Value.int .i64) by simp] at hM; rw [hl21] at hA
    clear hl21
    replace hM := hM.drop 0
    replace hM : Mem _ _ [own 3 1 (.slice a19 (((X ++ [(q : Int)])).length) c20) (((X ++ [(q : Int)])).length) (((X ++ [(q : Int)])).map (Value.int .i64)), pt b3 ((boo (U.set q true))) 4, pt b1 #[.int .i64 i.kind, .int .i64 i.n, .int .i64 i.cap, .slice ax3 i.wt.length cx3, .slice ax4 i.vl.length cx4, .slice ax5 i.cost.length cx5] 25] _ := hM
    refine S.val hA (R.assign rfl) rfl ?_; clear hA a; intro a hA
    refine S.done ?_
    replace hA : St 49 [(1, _), (3, _), (4, _)] a := hA.sub ((.cons rfl (.cons rfl (.cons rfl .nil))))
    refine Ends.inBlock ?_
    replace hM := hM.front (k := 2) rfl
    replace hM := hM.front (k := 2) rfl
    replace hM := hM.front (k := 2) rfl
    replace hM : Mem _ _ [own 3 1 (.slice a19 (((X ++ [(q : Int)])).length) c20) (((X ++ [(q : Int)])).length) (((X ++ [(q : Int)])).map (Value.int .i64)), pt b3 ((boo (U.set q true))) 4, pt b1 #[.int .i64 i.kind, .int .i64 i.n, .int .i64 i.cap, .slice ax3 i.wt.length cx3, .slice ax4 i.vl.length cx4, .slice ax5 i.cost.length cx5] 25] _ := hM
    exact hNext ((m + 1, (X ++ [(q : Int)]), a19, c20, (U.set q true))) _ _ ((by show i.n.toNat - (m + 1) < i.n.toNat - m; omega)) ⟨hA.sub ((.cons rfl (.cons rfl (.cons rfl .nil)))), hM, (by omega), hst, hus2⟩
   · exact absurd hk3 hc12
  ·
   have hXl : X.length = frm i + m := by rw [hX, rwA_len]
   have hinc := hin m hm
   rw [← hX] at hinc
   have hUl := hus.1
   have hmn : m = i.n.toNat - frm i := by omega
   refine Ends.exit rfl ?_
   refine Ends.seq (Ends.region ?_)
   refine S.val hA (R.move rfl) rfl ?_; clear hA a; intro a hA
   refine S.val hA (R.assign rfl) rfl ?_; clear hA a; intro a hA
   refine S.done ?_
   replace hA : St 49 [(2, _)] a := hA.sub ((.cons rfl .nil))
   refine Ends.ret1 Try.func47 Try.results47 hA rfl ?_
   rw [hmn] at hX
   subst hX
   have hr := hM.rsl (k := 0) (X := rwA i (i.n.toNat - frm i)) rfl
   exact ⟨_, _, rfl, hr, Mem.trans0 hbs hM.nilL⟩
 ·
  have hk3 := hc5
  have hfr : frm i = 0 := if_neg hk3
  refine Ends.skip (Ends.seq (Ends.block ?_))
  replace hM := hM.ownNil 3 1
  replace hM : Mem _ _ [own 3 1 (.slice none ((([] : List Int)).length) 0) ((([] : List Int)).length) ((([] : List Int)).map (Value.int .i64)), pt b3 ((boo (List.replicate i.n.toNat false))) 4, pt b1 #[.int .i64 i.kind, .int .i64 i.n, .int .i64 i.cap, .slice ax3 i.wt.length cx3, .slice ax4 i.vl.length cx4, .slice ax5 i.cost.length cx5] 25] _ := hM
  replace hM := hM.front (k := 2) rfl
  replace hM := hM.front (k := 2) rfl
  replace hM := hM.front (k := 2) rfl
  refine Ends.loop (σ := Nat × List Int × Option Addr × Nat × List Bool) (fun (m, X, ya, yc, U) (a : Act) (wv : World) => St 49 [(1, .pointer (some ⟨b1, 0, none⟩)), (3, .slice (some ⟨b3, 0, none⟩) i.n.toNat i.n.toNat), (4, .slice ya X.length yc)] a ∧ Mem w nof [own 3 1 (.slice ya X.length yc) X.length (X.map (Value.int .i64)), pt b3 ((boo U)) 4, pt b1 #[.int .i64 i.kind, .int .i64 i.n, .int .i64 i.cap, .slice ax3 i.wt.length cx3, .slice ax4 i.vl.length cx4, .slice ax5 i.cost.length cx5] 25] wv ∧ (frm i + m ≤ i.n.toNat) ∧ (X = rwA i m) ∧ (usOK X i.n.toNat U)) (fun (m, X, ya, yc, U) => i.n.toNat - m) ((0, [], none, 0, (List.replicate i.n.toNat false))) ⟨hA.sub ((.cons rfl (.cons rfl (.cons rfl .nil)))), hM, (by omega), (if_neg hk3).symm, (us_nil _)⟩ ?_
  clear hA hM a
  rintro ⟨m, X, ya, yc, U⟩ a w11 ⟨hA, hM, hm, hX, hus⟩ hNext
  refine Ends.seq (Ends.seq (Ends.region ?_))
  refine S.val hA (R.move rfl) rfl ?_; clear hA a; intro a hA
  refine S.val hA (R.lenS Try.underlying22 rfl rfl) rfl ?_; clear hA a; intro a hA
  refine S.val hA (R.fieldAddr (q := 1) fi25_1 rfl rfl rfl) rfl ?_; clear hA a; intro a hA
  refine S.val hA (R.load sz3 rfl (hM.cell (k := 2) rfl rfl)) rfl ?_; clear hA a; intro a hA
  refine S.val hA (R.lss rfl rfl) rfl ?_; clear hA a; intro a hA
  refine S.done ?_
  replace hA : St 49 [(1, _), (3, _), (4, _), (22, _)] a := hA.sub ((.cons rfl (.cons rfl (.cons rfl (.cons rfl .nil)))))
  refine Ends.ite hA rfl (fun hc22 => ?_) (fun hc22 => ?_)
  ·
   have hXl : X.length = frm i + m := by rw [hX, rwA_len]
   have hinc := hin m hm
   rw [← hX] at hinc
   have hUl := hus.1
   refine Ends.skip (Ends.block (Ends.seq (Ends.region ?_)))
   refine S.val hA (R.move rfl) rfl ?_; clear hA a; intro a hA
   refine S.val hA (R.lenS Try.underlying22 rfl rfl) rfl ?_; clear hA a; intro a hA
   refine S.val hA (R.assign rfl) rfl ?_; clear hA a; intro a hA
   refine S.done ?_
   refine Ends.seq (Ends.seq (Ends.region ?_))
   refine S.val hA (R.fieldAddr (q := 0) fi25_0 rfl rfl rfl) rfl ?_; clear hA a; intro a hA
   refine S.val hA (R.load sz3 rfl (hM.cell (k := 2) rfl rfl)) rfl ?_; clear hA a; intro a hA
   refine S.val hA (R.eql rfl rfl) rfl ?_; clear hA a; intro a hA
   refine S.done ?_
   replace hA : St 49 [(1, _), (3, _), (4, _), (5, _), (27, _)] a := hA.sub ((.cons rfl (.cons rfl (.cons rfl (.cons rfl (.cons rfl .nil))))))
   refine Ends.ite hA rfl (fun hc23 => ?_) (fun hc23 => ?_)
   · exact absurd hc23 hk3
   ·
    refine Ends.skip (Ends.seq ?_)
    have hrl := hrow X.length (by omega)
    obtain ⟨Rw, hRw0⟩ : ∃ Rw, Rw = i.cost.getD X.length [] := ⟨_, rfl⟩
    have hRw : rowOf i X = Rw := by rw [hRw0]; unfold rowOf; rw [if_neg hk3]
    obtain ⟨q, hq⟩ : ∃ q : Nat, chI Rw X i.n.toNat = (q : Int) := ⟨(chI Rw X i.n.toNat).toNat, by have := chI_pos Rw X i.n.toNat (free_col (by omega)); omega⟩
    have hqn : q < i.n.toNat := by have := chI_bd Rw X i.n.toNat; omega
    have hst : X ++ [(q : Int)] = rwA i (m + 1) := by rw [rwA, ← hX, hRw, hq]
    have hus2 := us_add hus (q := q) (by omega)
    refine Ends.region ?_
    refine S.val hA (R.fieldAddr (q := 5) fi25_5 rfl rfl rfl) rfl ?_; clear hA a; intro a hA
    refine S.val hA (R.load sz23 rfl (hM.cell (k := 2) rfl rfl)) rfl ?_; clear hA a; intro a hA
    refine S.val hA (R.move rfl) rfl ?_; clear hA a; intro a hA
    refine S.val hA (R.idxR hx5 (j := X.length) sl23 rfl rfl (by omega) (rfl)) rfl ?_; clear hA a; intro a hA
    obtain ⟨ra24, rc25, hrow26, hld27⟩ := hx5.atP (i := X.length) (by omega)
    refine S.val hA (hld27 _ _ _ _ _ _ hM sz22 rfl) rfl ?_; clear hA a; intro a hA
    refine S.val hA (R.move rfl) rfl ?_; clear hA a; intro a hA
    refine S.call hA (R.callF Try.func64 rfl rfl rfl) rfl ((by have h9 := cheap10 ra24 Rw rc25 b3 U X i.n.toNat (by rw [hRw0]; exact hrl) hus _ (by rw [hRw0]; exact hrow26.mem hM) (hM.block (k := 1) rfl); rw [hq, hRw0] at h9; exact h9)) ?_; clear hA a
    rintro e w12 ⟨rfl, hb⟩
    replace hM := hM.callB hb; clear hb
    refine ⟨.int .i64 ((q : Int)), rfl, fun a hA => ?_⟩
    refine S.val hA (R.assign rfl) rfl ?_; clear hA a; intro a hA
    refine S.done ?_
    replace hA : St 49 [(1, _), (3, _), (4, _), (6, _)] a := hA.sub ((.cons rfl (.cons rfl (.cons rfl (.cons rfl .nil)))))
    refine Ends.seq (Ends.region ?_)
    refine S.val hA (R.move rfl) rfl ?_; clear hA a; intro a hA
    refine S.val hA (R.move rfl) rfl ?_; clear hA a; intro a hA
    refine S.val hA (R.indexAddr (q := q) sl68 rfl rfl (by omega) (by omega)) rfl ?_; clear hA a; intro a hA
    refine S.store (k := 1) hA hM sz4 rfl rfl rfl rfl (boo_get _ _ (by omega)) ?_; clear hM
    intro w13 hM
    rw [boo_set] at hM
    replace hM : Mem _ _ [own 3 1 (.slice ya X.length yc) X.length (X.map (Value.int .i64)), pt b3 ((boo (U.set q true))) 4, pt b1 #[.int .i64 i.kind, .int .i64 i.n, .int .i64 i.cap, .slice ax3 i.wt.length cx3, .slice ax4 i.vl.length cx4, .slice ax5 i.cost.length cx5] 25] _ := hM
    refine S.done ?_
    refine Ends.region ?_
    refine S.val hA (R.move rfl) rfl ?_; clear hA a; intro a hA
    refine S.val hA (R.move rfl) rfl ?_; clear hA a; intro a hA
    refine S.buildSl (cells := #[.int .i64 ((q : Int))]) hA hM Try.underlying22 info3 rfl rfl rfl rfl (by kernel_rfl) rfl ?_; clear hA hM a; intro b28 w14 hb29 hM a hA
    replace hM : Mem _ _ [pt b28 #[.int .i64 ((q : Int))] 3, own 3 1 (.slice ya X.length yc) X.length (X.map (Value.int .i64)), pt b3 ((boo (U.set q true))) 4, pt b1 #[.int .i64 i.kind, .int .i64 i.n, .int .i64 i.cap, .slice ax3 i.wt.length cx3, .slice ax4 i.vl.length cx4, .slice ax5 i.cost.length cx5] 25] _ := hM
    refine S.append (k := 1) (k2 := 0) hA hM rfl rfl Try.underlying22 info3 rfl rfl rfl rfl rfl rfl rfl rfl rfl (by first | decide | (unfold maxLen; omega) | (show (_ + 1) * 8 ≤ (140737488355328 : Nat); omega) | omega) (by first | decide | (unfold maxLen; omega) | (show (_ + 1) * 8 ≤ (140737488355328 : Nat); omega) | omega) rfl ?_; clear hA hM a; intro a30 c31 w15 hM a hA
    replace hM : Mem _ _ [pt b28 #[.int .i64 ((q : Int))] 3, own 3 1 (.slice a30 (X.length + 1) c31) (X.length + 1) (X.map (Value.int .i64) ++ [.int .i64 ((q : Int))]), pt b3 ((boo (U.set q true))) 4, pt b1 #[.int .i64 i.kind, .int .i64 i.n, .int .i64 i.cap, .slice ax3 i.wt.length cx3, .slice ax4 i.vl.length cx4, .slice ax5 i.cost.length cx5] 25] _ := hM
    have hl32 : X.length + 1 = (X ++ [(q : Int)]).length := by simp
    rw [hl32, show X.map (Value.int .i64) ++ [.int .i64 ((q : Int))] = (X ++ [(q : Int)]).map (Value.int .i64) by simp] at hM; rw [hl32] at hA
    clear hl32
    replace hM := hM.drop 0
    replace hM : Mem _ _ [own 3 1 (.slice a30 (((X ++ [(q : Int)])).length) c31) (((X ++ [(q : Int)])).length) (((X ++ [(q : Int)])).map (Value.int .i64)), pt b3 ((boo (U.set q true))) 4, pt b1 #[.int .i64 i.kind, .int .i64 i.n, .int .i64 i.cap, .slice ax3 i.wt.length cx3, .slice ax4 i.vl.length cx4, .slice ax5 i.cost.length cx5] 25] _ := hM
    refine S.val hA (R.assign rfl) rfl ?_; clear hA a; intro a hA
    refine S.done ?_
    replace hA : St 49 [(1, _), (3, _), (4, _)] a := hA.sub ((.cons rfl (.cons rfl (.cons rfl .nil))))
    refine Ends.inBlock ?_
    replace hM := hM.front (k := 2) rfl
    replace hM := hM.front (k := 2) rfl
    replace hM := hM.front (k := 2) rfl
    replace hM : Mem _ _ [own 3 1 (.slice a30 (((X ++ [(q : Int)])).length) c31) (((X ++ [(q : Int)])).length) (((X ++ [(q : Int)])).map (Value.int .i64)), pt b3 ((boo (U.set q true))) 4, pt b1 #[.int .i64 i.kind, .int .i64 i.n, .int .i64 i.cap, .slice ax3 i.wt.length cx3, .slice ax4 i.vl.length cx4, .slice ax5 i.cost.length cx5] 25] _ := hM
    exact hNext ((m + 1, (X ++ [(q : Int)]), a30, c31, (U.set q true))) _ _ ((by show i.n.toNat - (m + 1) < i.n.toNat - m; omega)) ⟨hA.sub ((.cons rfl (.cons rfl (.cons rfl .nil)))), hM, (by omega), hst, hus2⟩
  ·
   have hXl : X.length = frm i + m := by rw [hX, rwA_len]
   have hinc := hin m hm
   rw [← hX] at hinc
   have hUl := hus.1
   have hmn : m = i.n.toNat - frm i := by omega
   refine Ends.exit rfl ?_
   refine Ends.seq (Ends.region ?_)
   refine S.val hA (R.move rfl) rfl ?_; clear hA a; intro a hA
   refine S.val hA (R.assign rfl) rfl ?_; clear hA a; intro a hA
   refine S.done ?_
   replace hA : St 49 [(2, _)] a := hA.sub ((.cons rfl .nil))
   refine Ends.ret1 Try.func47 Try.results47 hA rfl ?_
   rw [hmn] at hX
   subst hX
   have hr := hM.rsl (k := 0) (X := rwA i (i.n.toNat - frm i)) rfl
   exact ⟨_, _, rfl, hr, Mem.trans0 hbs hM.nilL⟩
set_option maxRecDepth 100000 in
set_option maxHeartbeats 400000 in
theorem first10 (i : Ins) (ax3 : Option Addr) (cx3 : Nat) (ax4 : Option Addr) (cx4 : Nat) (ax5 : Option Addr) (cx5 : Nat) (hsm : i.wt.length ≤ 1000000 ∧ i.vl.length ≤ 1000000) (w : World) (hx3 : IntSl w (.slice ax3 i.wt.length cx3) i.wt) (hx4 : IntSl w (.slice ax4 i.vl.length cx4) i.vl) (hx5 : RowsV w (.slice ax5 i.cost.length cx5) i.cost) :
  Calls Try.prog 24 #[.agg #[.int .i64 i.kind, .int .i64 i.n, .int .i64 i.cap, .slice ax3 i.wt.length cx3, .slice ax4 i.vl.length cx4, .slice ax5 i.cost.length cx5]] w fun e w' => ∃ a c, e = .returned (.tuple #[.slice a ((frI i)).length c, .int .i64 (chk i)]) ∧ IntSl w' (.slice a ((frI i)).length c) ((frI i)) ∧ Below w.heap.size w w' := by
 have hbs := Below.refl (B := w.heap.size) w
 have hM := Mem.start w
 refine Calls.of_ends (vs := [.agg #[.int .i64 i.kind, .int .i64 i.n, .int .i64 i.cap, .slice ax3 i.wt.length cx3, .slice ax4 i.vl.length cx4, .slice ax5 i.cost.length cx5]]) Try.func24 rfl Try.ntmps24 rfl ?_
 intro a hA
 replace hA : St 19 [(0, _)] a := hA
 refine Ends.seq (Ends.region ?_)
 refine S.box hA hM rfl rfl ?_; clear hA hM a; intro b1 w1 hb2 hM a hA
 replace hM : Mem _ _ [pt b1 #[.int .i64 i.kind, .int .i64 i.n, .int .i64 i.cap, .slice ax3 i.wt.length cx3, .slice ax4 i.vl.length cx4, .slice ax5 i.cost.length cx5] 25] _ := hM
 refine S.val hA (R.assign rfl) rfl ?_; clear hA a; intro a hA
 refine S.val hA (R.assign rfl) rfl ?_; clear hA a; intro a hA
 refine S.done ?_
 refine Ends.seq (Ends.region ?_)
 refine S.val hA (R.loadA sz25 rfl (hM.range (k := 0) rfl) rfl) rfl ?_; clear hA a; intro a hA
 refine S.call hA (R.callF Try.func35 rfl rfl rfl) rfl (check05 i ax3 cx3 ax4 cx4 ax5 cx5 hsm _ (hx3.mem hM) (hx4.mem hM) (hx5.mem hM)) ?_; clear hA a
 rintro e w2 ⟨rfl, hb⟩
 replace hM := hM.callB hb; clear hb
 refine ⟨.int .i64 (chk i), rfl, fun a hA => ?_⟩
 refine S.val hA (R.assign rfl) rfl ?_; clear hA a; intro a hA
 refine S.done ?_
 replace hA : St 19 [(1, _), (4, _)] a := hA.sub ((.cons rfl (.cons rfl .nil)))
 refine Ends.seq (Ends.block (Ends.seq (Ends.region ?_)))
 refine S.val hA (R.move rfl) rfl ?_; clear hA a; intro a hA
 refine S.val hA (R.neq rfl rfl) rfl ?_; clear hA a; intro a hA
 refine S.val hA (R.assign rfl) rfl ?_; clear hA a; intro a hA
 refine S.done ?_
 refine Ends.ite hA rfl (fun hc3 => ?_) (fun hc3 => ?_)
 ·
  have hz : ¬ chk i = 0 := hc3
  refine Ends.seq (Ends.region ?_)
  refine S.val hA (R.move rfl) rfl ?_; clear hA a; intro a hA
  refine S.val hA (R.assign rfl) rfl ?_; clear hA a; intro a hA
  refine S.val hA (R.assign rfl) rfl ?_; clear hA a; intro a hA
  refine S.done ?_
  replace hA : St 19 [(1, _), (2, _), (3, _)] a := hA.sub ((.cons rfl (.cons rfl (.cons rfl .nil))))
  refine Ends.ret2 Try.func24 Try.results24 hA rfl rfl ?_
  exact ⟨none, 0, by rw [frI_no hz]; rfl, by rw [frI_no hz]; exact IntSl.nil _, Mem.trans0 hbs hM.nilL⟩
 ·
  have hz : chk i = 0 := Decidable.not_not.1 hc3
  have hF := chk_inF hz
  refine Ends.seq (Ends.region ?_)
  refine S.val hA (R.fieldAddr (q := 0) fi25_0 rfl rfl rfl) rfl ?_; clear hA a; intro a hA
  refine S.val hA (R.load sz3 rfl (hM.cell (k := 0) rfl rfl)) rfl ?_; clear hA a; intro a hA
  refine S.val hA (R.eql rfl rfl) rfl ?_; clear hA a; intro a hA
  refine S.val hA (R.assign rfl) rfl ?_; clear hA a; intro a hA
  refine S.done ?_
  replace hA : St 19 [(1, _), (11, _)] a := hA.sub ((.cons rfl (.cons rfl .nil)))
  refine Ends.ite hA rfl (fun hc4 => ?_) (fun hc4 => ?_)
  ·
   have hk1 := hc4
   refine Ends.seq (Ends.region ?_)
   refine S.val hA (R.loadA sz25 rfl (hM.range (k := 0) rfl) rfl) rfl ?_; clear hA a; intro a hA
   refine S.call hA (R.callF Try.func46 rfl rfl rfl) rfl (knap10 i ax3 cx3 ax4 cx4 ax5 cx5 hF hk1 _ (hx3.mem hM) (hx4.mem hM) (hx5.mem hM)) ?_; clear hA a
   rintro e w3 ⟨ra5, rc6, rfl, rh7, hb⟩
   replace hM := hM.callB hb; clear hb
   have hbx8 := hM.block (k := 0) rfl
   have hbs := hbs.trans (hM.below.mono hbs.size)
   have hx3 := hx3.mem hM
   have hx4 := hx4.mem hM
   have hx5 := hx5.mem hM
   replace hM := Mem.start w3
   refine ⟨.slice ra5 (((knS i)).length) rc6, rfl, fun a hA => ?_⟩
   refine S.val hA (R.assign rfl) rfl ?_; clear hA a; intro a hA
   refine S.val hA (R.assign rfl) rfl ?_; clear hA a; intro a hA
   refine S.done ?_
   refine Ends.ret2 Try.func24 Try.results24 hA rfl rfl ?_
   rw [show frI i = (knS i) from frI_kn hz hk1, hz]
   exact ⟨_, _, rfl, rh7.mem hM, Mem.trans0 hbs hM.nilL⟩
  ·
   have hk1 := hc4
   refine Ends.skip (Ends.inBlock (Ends.seq (Ends.region ?_)))
   refine S.val hA (R.loadA sz25 rfl (hM.range (k := 0) rfl) rfl) rfl ?_; clear hA a; intro a hA
   refine S.call hA (R.callF Try.func47 rfl rfl rfl) rfl (rows10 i ax3 cx3 ax4 cx4 ax5 cx5 hF hk1 _ (hx3.mem hM) (hx4.mem hM) (hx5.mem hM)) ?_; clear hA a
   rintro e w4 ⟨ra9, rc10, rfl, rh11, hb⟩
   replace hM := hM.callB hb; clear hb
   have hbx12 := hM.block (k := 0) rfl
   have hbs := hbs.trans (hM.below.mono hbs.size)
   have hx3 := hx3.mem hM
   have hx4 := hx4.mem hM
   have hx5 := hx5.mem hM
   replace hM := Mem.start w4
   refine ⟨.slice ra9 (((rwA i (i.n.toNat - frm i))).length) rc10, rfl, fun a hA => ?_⟩
   refine S.val hA (R.assign rfl) rfl ?_; clear hA a; intro a hA
   refine S.val hA (R.assign rfl) rfl ?_; clear hA a; intro a hA
   refine S.done ?_
   replace hA : St 19 [(2, _), (3, _)] a := hA.sub ((.cons rfl (.cons rfl .nil)))
   refine Ends.ret2 Try.func24 Try.results24 hA rfl rfl ?_
   rw [show frI i = (rwA i (i.n.toNat - frm i)) from frI_rw hz hk1, hz]
   exact ⟨_, _, rfl, rh11.mem hM, Mem.trans0 hbs hM.nilL⟩
set_option maxRecDepth 100000 in
set_option maxHeartbeats 400000 in
theorem rfirst10 (i : Ins) (ax3 : Option Addr) (cx3 : Nat) (ax4 : Option Addr) (cx4 : Nat) (ax5 : Option Addr) (cx5 : Nat) (w : World) (hx3 : IntSl w (.slice ax3 i.wt.length cx3) i.wt) (hx4 : IntSl w (.slice ax4 i.vl.length cx4) i.vl) (hx5 : RowsV w (.slice ax5 i.cost.length cx5) i.cost) :
  Calls Try.prog 25 #[.agg #[.int .i64 i.kind, .int .i64 i.n, .int .i64 i.cap, .slice ax3 i.wt.length cx3, .slice ax4 i.vl.length cx4, .slice ax5 i.cost.length cx5]] w fun e w' => ∃ a c, e = .returned (.tuple #[.slice a ((frI i)).length c, .int .i64 (chk i)]) ∧ IntSl w' (.slice a ((frI i)).length c) ((frI i)) ∧ Below w.heap.size w w' := by
 have hbs := Below.refl (B := w.heap.size) w
 have hM := Mem.start w
 refine Calls.of_ends (vs := [.agg #[.int .i64 i.kind, .int .i64 i.n, .int .i64 i.cap, .slice ax3 i.wt.length cx3, .slice ax4 i.vl.length cx4, .slice ax5 i.cost.length cx5]]) Try.func25 rfl Try.ntmps25 rfl ?_
 intro a hA
 replace hA : St 85 [(0, _)] a := hA
 refine Ends.seq (Ends.region ?_)
 refine S.box hA hM rfl rfl ?_; clear hA hM a; intro b1 w1 hb2 hM a hA
 replace hM : Mem _ _ [pt b1 #[.int .i64 i.kind, .int .i64 i.n, .int .i64 i.cap, .slice ax3 i.wt.length cx3, .slice ax4 i.vl.length cx4, .slice ax5 i.cost.length cx5] 25] _ := hM
 refine S.val hA (R.assign rfl) rfl ?_; clear hA a; intro a hA
 refine S.val hA (R.assign rfl) rfl ?_; clear hA a; intro a hA
 refine S.done ?_
 refine Ends.seq (Ends.seq (Ends.region ?_))
 refine S.val hA (R.loadA sz25 rfl (hM.range (k := 0) rfl) rfl) rfl ?_; clear hA a; intro a hA
 refine S.call hA (R.callF Try.func15 rfl rfl rfl) rfl (rcheck05 i ax3 cx3 ax4 cx4 ax5 cx5 _ (hx3.mem hM) (hx4.mem hM) (hx5.mem hM)) ?_; clear hA a
 rintro e w2 ⟨rfl, hb⟩
 replace hM := hM.callB hb; clear hb
 refine ⟨.int .i64 (chk i), rfl, fun a hA => ?_⟩
 refine S.val hA (R.assign rfl) rfl ?_; clear hA a; intro a hA
 refine S.done ?_
 replace hA : St 85 [(1, _), (4, _)] a := hA.sub ((.cons rfl (.cons rfl .nil)))
 refine Ends.seq (Ends.region ?_)
 refine S.val hA (R.move rfl) rfl ?_; clear hA a; intro a hA
 refine S.val hA (R.neq rfl rfl) rfl ?_; clear hA a; intro a hA
 refine S.done ?_
 refine Ends.ite hA rfl (fun hc3 => ?_) (fun hc3 => ?_)
 ·
  have hz : ¬ chk i = 0 := hc3
  refine Ends.seq (Ends.region ?_)
  refine S.val hA (R.move rfl) rfl ?_; clear hA a; intro a hA
  refine S.val hA (R.assign rfl) rfl ?_; clear hA a; intro a hA
  refine S.val hA (R.assign rfl) rfl ?_; clear hA a; intro a hA
  refine S.done ?_
  replace hA : St 85 [(1, _), (2, _), (3, _)] a := hA.sub ((.cons rfl (.cons rfl (.cons rfl .nil))))
  refine Ends.ret2 Try.func25 Try.results25 hA rfl rfl ?_
  exact ⟨none, 0, by rw [frI_no hz]; rfl, by rw [frI_no hz]; exact IntSl.nil _, Mem.trans0 hbs hM.nilL⟩
 ·
  have hz : chk i = 0 := Decidable.not_not.1 hc3
  have hF := chk_inF hz
  refine Ends.skip (Ends.seq (Ends.seq (Ends.region ?_)))
  refine S.val hA (R.fieldAddr (q := 0) fi25_0 rfl rfl rfl) rfl ?_; clear hA a; intro a hA
  refine S.val hA (R.load sz3 rfl (hM.cell (k := 0) rfl rfl)) rfl ?_; clear hA a; intro a hA
  refine S.val hA (R.eql rfl rfl) rfl ?_; clear hA a; intro a hA
  refine S.done ?_
  replace hA : St 85 [(1, _), (17, _)] a := hA.sub ((.cons rfl (.cons rfl .nil)))
  refine Ends.ite hA rfl (fun hc4 => ?_) (fun hc4 => ?_)
  ·
   have hk1 := hc4
   refine Ends.seq (Ends.region ?_)
   refine S.val hA (R.loadA sz25 rfl (hM.range (k := 0) rfl) rfl) rfl ?_; clear hA a; intro a hA
   refine S.call hA (R.callF Try.func48 rfl rfl rfl) rfl (rknap10 i ax3 cx3 ax4 cx4 ax5 cx5 hF hk1 _ (hx3.mem hM) (hx4.mem hM) (hx5.mem hM)) ?_; clear hA a
   rintro e w3 ⟨ra5, rc6, rfl, rh7, hb⟩
   replace hM := hM.callB hb; clear hb
   have hbx8 := hM.block (k := 0) rfl
   have hbs := hbs.trans (hM.below.mono hbs.size)
   have hx3 := hx3.mem hM
   have hx4 := hx4.mem hM
   have hx5 := hx5.mem hM
   replace hM := Mem.start w3
   refine ⟨.slice ra5 (((knS i)).length) rc6, rfl, fun a hA => ?_⟩
   refine S.val hA (R.assign rfl) rfl ?_; clear hA a; intro a hA
   refine S.val hA (R.assign rfl) rfl ?_; clear hA a; intro a hA
   refine S.done ?_
   refine Ends.ret2 Try.func25 Try.results25 hA rfl rfl ?_
   rw [show frI i = (knS i) from frI_kn hz hk1, hz]
   exact ⟨_, _, rfl, rh7.mem hM, Mem.trans0 hbs hM.nilL⟩
  ·
   have hk1 := hc4
   have f1 := hF.n1
   have f3 := hF.n64
   have f4 := hF.n24 hk1
   have f7 := hF.cost
   rw [if_neg hk1] at f7
   have hrow := fun r h => rowLn hF hk1 (r := r) h
   have hfl := frm_le i
   have hin := rwA_inc (i := i) (by omega)
   have hrp : (List.replicate i.n.toNat false).length = i.n.toNat := List.length_replicate
   refine Ends.skip (Ends.seq (Ends.region ?_))
   refine S.alloc hA hM info52 rfl rfl ?_; clear hA hM a; intro b9 w4 hb10 hM a hA
   replace hM : Mem _ _ [pt b9 #[.bool false, .bool false, .bool false, .bool false, .bool false, .bool false, .bool false, .bool false, .bool false, .bool false, .bool false, .bool false, .bool false, .bool false, .bool false, .bool false, .bool false, .bool false, .bool false, .bool false, .bool false, .bool false, .bool false, .bool false] 52, pt b1 #[.int .i64 i.kind, .int .i64 i.n, .int .i64 i.cap, .slice ax3 i.wt.length cx3, .slice ax4 i.vl.length cx4, .slice ax5 i.cost.length cx5] 25] _ := hM
   refine S.done ?_
   replace hM : Mem _ _ [pt b9 ((boo (List.replicate 24 false))) 52, pt b1 #[.int .i64 i.kind, .int .i64 i.n, .int .i64 i.cap, .slice ax3 i.wt.length cx3, .slice ax4 i.vl.length cx4, .slice ax5 i.cost.length cx5] 25] _ := hM
   have hrp : (List.replicate 24 false).length = 24 := List.length_replicate
   refine Ends.seq (Ends.region ?_)
   refine S.buildSl0 hA hM Try.underlying22 info3 rfl ?_; clear hA hM a; intro b11 w5 hb12 hM a hA
   replace hM := hM.ownPt (cap := 0) (n := 0) (sz := 1) (xs := []) rfl (Nat.zero_le _) (Nat.le_refl _) rfl
   replace hM : Mem _ _ [own 3 1 (.slice ((some ⟨b11, 0, none⟩)) 0 0) 0 ((([] : List Int)).map (Value.int .i64)), pt b9 ((boo (List.replicate 24 false))) 52, pt b1 #[.int .i64 i.kind, .int .i64 i.n, .int .i64 i.cap, .slice ax3 i.wt.length cx3, .slice ax4 i.vl.length cx4, .slice ax5 i.cost.length cx5] 25] _ := hM
   refine S.val hA (R.assign rfl) rfl ?_; clear hA a; intro a hA
   refine S.done ?_
   refine Ends.seq (Ends.seq (Ends.region ?_))
   refine S.val hA (R.fieldAddr (q := 0) fi25_0 rfl rfl rfl) rfl ?_; clear hA a; intro a hA
   refine S.val hA (R.load sz3 rfl (hM.cell (k := 2) rfl rfl)) rfl ?_; clear hA a; intro a hA
   refine S.val hA (R.eql rfl rfl) rfl ?_; clear hA a; intro a hA
   refine S.done ?_
   replace hA : St 85 [(1, _), (5, _), (6, _), (23, _)] a := hA.sub ((.cons rfl (.cons rfl (.cons rfl (.cons rfl .nil)))))
   refine Ends.ite hA rfl (fun hc13 => ?_) (fun hc13 => ?_)
   ·
    have hk3 := hc13
    have hfr : frm i = 1 := if_pos hk3
    refine Ends.seq (Ends.region ?_)
    refine S.val hA (R.move rfl) rfl ?_; clear hA a; intro a hA
    refine S.buildSl (cells := #[.int .i64 0]) hA hM Try.underlying22 info3 rfl rfl rfl rfl (by kernel_rfl) rfl ?_; clear hA hM a; intro b14 w6 hb15 hM a hA
    replace hM : Mem _ _ [pt b14 #[.int .i64 0] 3, own 3 1 (.slice ((some ⟨b11, 0, none⟩)) 0 0) 0 ((([] : List Int)).map (Value.int .i64)), pt b9 ((boo (List.replicate 24 false))) 52, pt b1 #[.int .i64 i.kind, .int .i64 i.n, .int .i64 i.cap, .slice ax3 i.wt.length cx3, .slice ax4 i.vl.length cx4, .slice ax5 i.cost.length cx5] 25] _ := hM
    refine S.append (k := 1) (k2 := 0) hA hM rfl rfl Try.underlying22 info3 rfl rfl rfl rfl rfl rfl rfl rfl rfl (by first | decide | (unfold maxLen; omega) | (show (_ + 1) * 8 ≤ (140737488355328 : Nat); omega) | omega) (by first | decide | (unfold maxLen; omega) | (show (_ + 1) * 8 ≤ (140737488355328 : Nat); omega) | omega) rfl ?_; clear hA hM a; intro a16 c17 w7 hM a hA
    replace hM : Mem _ _ [pt b14 #[.int .i64 0] 3, own 3 1 (.slice a16 (0 + 1) c17) (0 + 1) ((([] : List Int)).map (Value.int .i64) ++ [.int .i64 0]), pt b9 ((boo (List.replicate 24 false))) 52, pt b1 #[.int .i64 i.kind, .int .i64 i.n, .int .i64 i.cap, .slice ax3 i.wt.length cx3, .slice ax4 i.vl.length cx4, .slice ax5 i.cost.length cx5] 25] _ := hM
    have hl18 : 0 + 1 = (([] : List Int) ++ [0]).length := by simp
    rw [hl18, show (([] : List Int)).map (Value.int .i64) ++ [.int .i64 0] = (([] : List Int) ++ [0]).map (Value.int .i64) by simp] at hM; rw [hl18] at hA
    clear hl18
    replace hM := hM.drop 0
    replace hM : Mem _ _ [own 3 1 (.slice a16 (((([] : List Int) ++ [0])).length) c17) (((([] : List Int) ++ [0])).length) (((([] : List Int) ++ [0])).map (Value.int .i64)), pt b9 ((boo (List.replicate 24 false))) 52, pt b1 #[.int .i64 i.kind, .int .i64 i.n, .int .i64 i.cap, .slice ax3 i.wt.length cx3, .slice ax4 i.vl.length cx4, .slice ax5 i.cost.length cx5] 25] _ := hM
    refine S.val hA (R.assign rfl) rfl ?_; clear hA a; intro a hA
    refine S.done ?_
    replace hA : St 85 [(1, _), (5, _), (6, _)] a := hA.sub ((.cons rfl (.cons rfl (.cons rfl .nil))))
    refine Ends.region ?_
    refine S.val hA (R.indexAddrA (q := 0) ar52 rfl rfl (by omega) (rfl)) rfl ?_; clear hA a; intro a hA
    refine S.store (k := 1) hA hM sz4 rfl rfl rfl rfl (boo_get _ _ (by omega)) ?_; clear hM
    intro w8 hM
    rw [boo_set] at hM
    replace hM : Mem _ _ [own 3 1 (.slice a16 (((([] : List Int) ++ [0])).length) c17) (((([] : List Int) ++ [0])).length) (((([] : List Int) ++ [0])).map (Value.int .i64)), pt b9 ((boo (((List.replicate 24 false)).set 0 true))) 52, pt b1 #[.int .i64 i.kind, .int .i64 i.n, .int .i64 i.cap, .slice ax3 i.wt.length cx3, .slice ax4 i.vl.length cx4, .slice ax5 i.cost.length cx5] 25] _ := hM
    refine S.done ?_
    refine Ends.seq (Ends.block ?_)
    replace hM := hM.front (k := 2) rfl
    replace hM := hM.front (k := 2) rfl
    replace hM := hM.front (k := 2) rfl
    refine Ends.loop (σ := Nat × List Int × Option Addr × Nat × List Bool) (fun (m, X, ya, yc, U) (a : Act) (wv : World) => St 85 [(1, .pointer (some ⟨b1, 0, none⟩)), (5, .pointer (some ⟨b9, 0, none⟩)), (6, .slice ya X.length yc)] a ∧ Mem w nof [own 3 1 (.slice ya X.length yc) X.length (X.map (Value.int .i64)), pt b9 ((boo U)) 52, pt b1 #[.int .i64 i.kind, .int .i64 i.n, .int .i64 i.cap, .slice ax3 i.wt.length cx3, .slice ax4 i.vl.length cx4, .slice ax5 i.cost.length cx5] 25] wv ∧ (frm i + m ≤ i.n.toNat) ∧ (X = rwA i m) ∧ (usOK X 24 U)) (fun (m, X, ya, yc, U) => i.n.toNat - m) ((0, [0], a16, c17, (((List.replicate 24 false)).set 0 true))) ⟨hA.sub ((.cons rfl (.cons rfl (.cons rfl .nil)))), hM, (by omega), (if_pos hk3).symm, (us_zero (by omega))⟩ ?_
    clear hA hM a
    rintro ⟨m, X, ya, yc, U⟩ a w9 ⟨hA, hM, hm, hX, hus⟩ hNext
    refine Ends.seq (Ends.seq (Ends.region ?_))
    refine S.val hA (R.move rfl) rfl ?_; clear hA a; intro a hA
    refine S.val hA (R.lenS Try.underlying22 rfl rfl) rfl ?_; clear hA a; intro a hA
    refine S.val hA (R.fieldAddr (q := 1) fi25_1 rfl rfl rfl) rfl ?_; clear hA a; intro a hA
    refine S.val hA (R.load sz3 rfl (hM.cell (k := 2) rfl rfl)) rfl ?_; clear hA a; intro a hA
    refine S.val hA (R.lss rfl rfl) rfl ?_; clear hA a; intro a hA
    refine S.done ?_
    replace hA : St 85 [(1, _), (5, _), (6, _), (32, _)] a := hA.sub ((.cons rfl (.cons rfl (.cons rfl (.cons rfl .nil)))))
    refine Ends.ite hA rfl (fun hc19 => ?_) (fun hc19 => ?_)
    ·
     have hXl : X.length = frm i + m := by rw [hX, rwA_len]
     have hinc := hin m hm
     rw [← hX] at hinc
     have hUl := hus.1
     refine Ends.skip (Ends.block (Ends.seq (Ends.region ?_)))
     refine S.val hA (R.fieldAddr (q := 5) fi25_5 rfl rfl rfl) rfl ?_; clear hA a; intro a hA
     refine S.val hA (R.load sz23 rfl (hM.cell (k := 2) rfl rfl)) rfl ?_; clear hA a; intro a hA
     refine S.val hA (R.move rfl) rfl ?_; clear hA a; intro a hA
     refine S.val hA (R.lenS Try.underlying22 rfl rfl) rfl ?_; clear hA a; intro a hA
     refine S.val hA (R.idxR hx5 (j := X.length) sl23 rfl rfl (by omega) (rfl)) rfl ?_; clear hA a; intro a hA
     obtain ⟨ra20, rc21, hrow22, hld23⟩ := hx5.atP (i := X.length) (by omega)
     refine S.val hA (hld23 _ _ _ _ _ _ hM sz22 rfl) rfl ?_; clear hA a; intro a hA
     refine S.val hA (R.assign rfl) rfl ?_; clear hA a; intro a hA
     refine S.done ?_
     replace hA : St 85 [(1, _), (5, _), (6, _), (7, _)] a := hA.sub ((.cons rfl (.cons rfl (.cons rfl (.cons rfl .nil)))))
     refine Ends.seq (Ends.seq (Ends.region ?_))
     refine S.val hA (R.fieldAddr (q := 0) fi25_0 rfl rfl rfl) rfl ?_; clear hA a; intro a hA
     refine S.val hA (R.load sz3 rfl (hM.cell (k := 2) rfl rfl)) rfl ?_; clear hA a; intro a hA
     refine S.val hA (R.eql rfl rfl) rfl ?_; clear hA a; intro a hA
     refine S.done ?_
     refine Ends.ite hA rfl (fun hc24 => ?_) (fun hc24 => ?_)
     ·
      have hlast : 0 ≤ X.getD (X.length - 1) 0 ∧ X.getD (X.length - 1) 0 < (i.n.toNat : Int) := hinc.1.2 _ (getD_mem (by omega))
      refine Ends.drawn (Mem w nof [own 3 1 (.slice ya X.length yc) X.length (X.map (Value.int .i64)), pt b9 ((boo U)) 52, pt b1 #[.int .i64 i.kind, .int .i64 i.n, .int .i64 i.cap, .slice ax3 i.wt.length cx3, .slice ax4 i.vl.length cx4, .slice ax5 i.cost.length cx5] 25]) (.cons (0, true) (.cons (1, true) (.cons (2, true) (.cons (3, true) (.cons (4, true) (.cons (5, true) (.cons (6, true) (.cons (7, true) (.cons (8, true) (.cons (9, true) (.cons (10, true) .nil))))))))))) 11 mixed (by kernel_rfl) (by kernel_rfl) (by kernel_rfl) hM.drew ?_
      replace hM := hM.drew
      refine D.valF hA rfl (fun _ => R.fieldAddr (q := 5) fi25_5 rfl rfl rfl) rfl ?_; clear hA a; intro a hA
      refine D.val hA rfl (by kernel_rfl) (fun _ hM => R.load sz23 rfl (hM.cell (k := 2) rfl rfl)) rfl ?_; clear hA a; intro a hA
      refine D.valF hA rfl (fun _ => R.move rfl) rfl ?_; clear hA a; intro a hA
      refine D.valF hA rfl (fun _ => R.move rfl) rfl ?_; clear hA a; intro a hA
      refine D.valF hA rfl (fun _ => R.lenS Try.underlying22 rfl rfl) rfl ?_; clear hA a; intro a hA
      refine D.valF hA rfl (fun _ => R.subI rfl rfl (r := ((X.length - 1 : Nat) : Int)) (by omega) (by omega)) rfl ?_; clear hA a; intro a hA
      refine D.valF hA rfl (fun _ => R.idxI (hM.rsl (k := 0) rfl) (j := (X.length - 1)) sl22 rfl rfl (by omega) (by omega)) rfl ?_; clear hA a; intro a hA
      refine D.val hA rfl (by kernel_rfl) (fun _ hM => R.loadI (hM.rsl (k := 0) rfl) sz3 rfl (by omega)) rfl ?_; clear hA a; intro a hA
      refine D.valF hA rfl (fun _ => R.idxR hx5 (j := (X.getD ((X.length - 1)) 0).toNat) sl23 rfl rfl (by omega) (rfl)) rfl ?_; clear hA a; intro a hA
      obtain ⟨ra25, rc26, hrow27, hld28⟩ := hx5.atP (i := (X.getD ((X.length - 1)) 0).toNat) (by omega)
      refine D.val hA rfl (by kernel_rfl) (fun _ hM => hld28 _ _ _ _ _ _ hM sz22 rfl) rfl ?_; clear hA a; intro a hA
      refine D.valF hA rfl (fun _ => R.assign rfl) rfl ?_; clear hA a; intro a hA
      refine D.done ?_
      replace hA : St 85 [(1, _), (5, _), (6, _), (7, _)] a := hA.sub ((.cons rfl (.cons rfl (.cons rfl (.cons rfl .nil)))))
      refine Ends.seq ?_
      have hrl := hrow ((X.getD ((X.length - 1)) 0).toNat) (by omega)
      obtain ⟨Rw, hRw0⟩ : ∃ Rw, Rw = i.cost.getD ((X.getD ((X.length - 1)) 0).toNat) [] := ⟨_, rfl⟩
      have hRw : rowOf i X = Rw := by rw [hRw0]; unfold rowOf; rw [if_pos hk3]
      rw [← hRw0] at hA hrow27 hrl
      obtain ⟨q, hq⟩ : ∃ q : Nat, chI Rw X i.n.toNat = (q : Int) := ⟨(chI Rw X i.n.toNat).toNat, by have := chI_pos Rw X i.n.toNat (free_col (by omega)); omega⟩
      have hqn : q < i.n.toNat := by have := chI_bd Rw X i.n.toNat; omega
      have hst : X ++ [(q : Int)] = rwA i (m + 1) := by rw [rwA, ← hX, hRw, hq]
      have hus2 := us_add hus (q := q) (by omega)
      refine Ends.region ?_
      refine S.val hA (R.to (v := .int .i64 (chI Rw X 0)) (R.assign rfl) (rfl)) rfl ?_; clear hA a; intro a hA
      refine S.done ?_
      refine Ends.seq (Ends.seq (Ends.region ?_))
      refine S.val hA (R.assign rfl) rfl ?_; clear hA a; intro a hA
      refine S.done ?_
      refine Ends.block ?_
      refine Ends.loop (σ := Nat) (fun z (a : Act) (wv : World) => St 85 [(1, .pointer (some ⟨b1, 0, none⟩)), (5, .pointer (some ⟨b9, 0, none⟩)), (6, .slice ya X.length yc), (7, .slice ra25 Rw.length rc26), (8, .int .i64 (chI Rw X z)), (9, .int .i64 ((z : Int)))] a ∧ Mem w nof [own 3 1 (.slice ya X.length yc) X.length (X.map (Value.int .i64)), pt b9 ((boo U)) 52, pt b1 #[.int .i64 i.kind, .int .i64 i.n, .int .i64 i.cap, .slice ax3 i.wt.length cx3, .slice ax4 i.vl.length cx4, .slice ax5 i.cost.length cx5] 25] wv ∧ (z ≤ i.n.toNat)) (fun z => i.n.toNat - z) 0 ⟨hA.sub ((.cons rfl (.cons rfl (.cons rfl (.cons rfl (.cons rfl (.cons rfl .nil))))))), hM, (Nat.zero_le _)⟩ ?_
      clear hA hM a
      rintro z a w10 ⟨hA, hM, hkz⟩ hNext1
      refine Ends.seq (Ends.seq (Ends.region ?_))
      refine S.val hA (R.move rfl) rfl ?_; clear hA a; intro a hA
      refine S.val hA (R.fieldAddr (q := 1) fi25_1 rfl rfl rfl) rfl ?_; clear hA a; intro a hA
      refine S.val hA (R.load sz3 rfl (hM.cell (k := 2) rfl rfl)) rfl ?_; clear hA a; intro a hA
      refine S.val hA (R.lss rfl rfl) rfl ?_; clear hA a; intro a hA
      refine S.done ?_
      refine Ends.ite hA rfl (fun hc29 => ?_) (fun hc29 => ?_)
      ·
       have hcb := chI_bd Rw X z
       have hu := hus.2 z (by omega)
       refine Ends.skip (Ends.seq (Ends.block (Ends.seq ?_)))
       refine Ends.cut (fun (a : Act) (wv : World) => St 85 [(1, .pointer (some ⟨b1, 0, none⟩)), (5, .pointer (some ⟨b9, 0, none⟩)), (6, .slice ya X.length yc), (7, .slice ra25 Rw.length rc26), (8, .int .i64 (chI Rw X z)), (9, .int .i64 ((z : Int))), (76, .bool (decide ((¬ ((z : Int) ∈ X) ∧ ((chI Rw X z) < 0 ∨ (Rw.getD z 0) < (Rw.getD ((chI Rw X z).toNat) 0))))))] a ∧ Mem w nof [own 3 1 (.slice ya X.length yc) X.length (X.map (Value.int .i64)), pt b9 ((boo U)) 52, pt b1 #[.int .i64 i.kind, .int .i64 i.n, .int .i64 i.cap, .slice ax3 i.wt.length cx3, .slice ax4 i.vl.length cx4, .slice ax5 i.cost.length cx5] 25] wv) ?_ (fun k2 hJ => ?_)
       ·
        clear hA hM a; rintro a w11 ⟨hA, hM⟩
        refine Ends.ite hA rfl (fun hc30 => ?_) (fun hc30 => ?_)
        ·
         have hs9 : chI Rw X (z + 1) = (z : Int) := by
          rw [chI]; exact if_pos hc30
         refine Ends.region ?_
         refine S.val hA (R.move rfl) rfl ?_; clear hA a; intro a hA
         refine S.val hA (R.to (v := .int .i64 (chI Rw X (z + 1))) (R.assign rfl) (congrArg (Value.int .i64) hs9.symm)) rfl ?_; clear hA a; intro a hA
         refine S.done ?_
         refine Ends.inBlock (Ends.region ?_)
         refine S.val hA (R.move rfl) rfl ?_; clear hA a; intro a hA
         refine S.val hA (R.addI rfl rfl (r := ((z : Int)) + 1) rfl (by omega)) rfl ?_; clear hA a; intro a hA
         refine S.val hA (R.assign rfl) rfl ?_; clear hA a; intro a hA
         refine S.done ?_
         replace hA : St 85 [(1, _), (5, _), (6, _), (7, _), (8, _), (9, _)] a := hA.sub ((.cons rfl (.cons rfl (.cons rfl (.cons rfl (.cons rfl (.cons rfl .nil)))))))
         exact hNext1 ((z + 1)) _ _ ((by show i.n.toNat - (z + 1) < i.n.toNat - z; omega)) ⟨hA.sub ((.cons rfl (.cons rfl (.cons rfl (.cons rfl (.cons rfl (.cons rfl .nil))))))), hM, (by omega)⟩
        ·
         have hs9 : chI Rw X (z + 1) = chI Rw X z := by
          rw [chI]; exact if_neg hc30
         refine Ends.skip (Ends.inBlock (Ends.region ?_))
         refine S.val hA (R.move rfl) rfl ?_; clear hA a; intro a hA
         refine S.val hA (R.addI rfl rfl (r := ((z : Int)) + 1) rfl (by omega)) rfl ?_; clear hA a; intro a hA
         refine S.val hA (R.assign rfl) rfl ?_; clear hA a; intro a hA
         refine S.done ?_
         rw [← hs9] at hA
         exact hNext1 ((z + 1)) _ _ ((by show i.n.toNat - (z + 1) < i.n.toNat - z; omega)) ⟨hA.sub ((.cons rfl (.cons rfl (.cons rfl (.cons rfl (.cons rfl (.cons rfl .nil))))))), hM, (by omega)⟩
       ·
        refine Ends.drawn (Mem w nof [own 3 1 (.slice ya X.length yc) X.length (X.map (Value.int .i64)), pt b9 ((boo U)) 52, pt b1 #[.int .i64 i.kind, .int .i64 i.n, .int .i64 i.cap, .slice ax3 i.wt.length cx3, .slice ax4 i.vl.length cx4, .slice ax5 i.cost.length cx5] 25]) (.cons (0, true) (.cons (1, true) (.cons (2, true) (.cons (3, true) (.cons (4, true) (.cons (5, true) (.cons (6, true) (.cons (7, true) (.cons (8, true) (.cons (9, true) (.cons (10, true) (.cons (11, true) (.cons (12, true) (.cons (13, true) (.cons (14, true) (.cons (15, true) (.cons (16, true) (.cons (17, true) (.cons (18, true) .nil))))))))))))))))))) 19 mixed (by kernel_rfl) (by kernel_rfl) (by kernel_rfl) hM.drew ?_
        replace hM := hM.drew
        refine D.valF hA rfl (fun _ => R.move rfl) rfl ?_; clear hA a; intro a hA
        refine D.valF hA rfl (fun _ => R.indexAddrA (q := z) ar52 rfl rfl (by omega) (by omega)) rfl ?_; clear hA a; intro a hA
        refine D.val hA rfl (by kernel_rfl) (fun _ hM => R.to (v := .bool (decide ((z : Int) ∈ X))) (R.load sz4 rfl (hM.cell (k := 1) rfl (boo_get U z (by omega)))) (congrArg Value.bool hu)) rfl ?_; clear hA a; intro a hA
        refine D.valF hA rfl (fun _ => R.notD rfl) rfl ?_; clear hA a; intro a hA
        refine D.valF hA rfl (fun _ => R.move rfl) rfl ?_; clear hA a; intro a hA
        refine hA.split (d := 62) rfl ?_ ?_
        ·
         clear hA; intro hg31 hA
         refine D.valgF (dj := 62) hA rfl (by kernel_rfl) rfl (fun _ => R.move rfl) rfl ?_; clear hA a; intro a hA
         refine D.valgF (dj := 62) hA rfl (by kernel_rfl) rfl (fun _ => R.lss rfl rfl) rfl ?_; clear hA a; intro a hA
         refine D.valgF (dj := 62) hA rfl (by kernel_rfl) rfl (fun _ => R.move rfl) rfl ?_; clear hA a; intro a hA
         refine hA.split (d := 65) rfl ?_ ?_
         ·
          clear hA; intro hg32 hA
          refine D.no (dj := 65) hA rfl (by kernel_rfl) rfl rfl rfl ?_; clear hA a; intro a hA
          refine D.no (dj := 65) hA rfl (by kernel_rfl) rfl rfl rfl ?_; clear hA a; intro a hA
          refine D.no (dj := 65) hA rfl (by kernel_rfl) rfl rfl rfl ?_; clear hA a; intro a hA
          refine D.no (dj := 65) hA rfl (by kernel_rfl) rfl rfl rfl ?_; clear hA a; intro a hA
          refine D.no (dj := 65) hA rfl (by kernel_rfl) rfl rfl rfl ?_; clear hA a; intro a hA
          refine D.no (dj := 65) hA rfl (by kernel_rfl) rfl rfl rfl ?_; clear hA a; intro a hA
          refine D.no (dj := 65) hA rfl (by kernel_rfl) rfl rfl rfl ?_; clear hA a; intro a hA
          refine D.no (dj := 65) hA rfl (by kernel_rfl) rfl rfl rfl ?_; clear hA a; intro a hA
          refine D.no (dj := 65) hA rfl (by kernel_rfl) rfl rfl rfl ?_; clear hA a; intro a hA
          refine D.valgF (dj := 62) hA rfl (by kernel_rfl) rfl (fun _ => R.pickT rfl rfl) rfl ?_; clear hA a; intro a hA
          refine D.valF hA rfl (fun _ => R.pickT rfl rfl) rfl ?_; clear hA a; intro a hA
          refine D.done ?_
          replace hA : St 85 [(1, _), (5, _), (6, _), (7, _), (8, _), (9, _), (76, _)] a := hA.sub ((.cons rfl (.cons rfl (.cons rfl (.cons rfl (.cons rfl (.cons rfl (.cons rfl .nil))))))))
          exact hJ _ _ ⟨hA.sub (.cons rfl (.cons rfl (.cons rfl (.cons rfl (.cons rfl (.cons rfl (.cons (by first | rfl | exact congrArg (fun b => some (Value.bool b)) (by first | exact decide_eq_decide.2 (by omega) | exact or_bool (by omega) | exact and_bool (by omega) | (simp; done) | (simp [hg31, hg32]; done) | (have h80 := hg31; (try simp at h80); have h81 := hg32; (try simp at h81); simp [h80, h81]; done) | exact (decide_eq_false (fun h9 => hg31 h9.1)).symm | exact (decide_eq_false (fun h9 => hg32 h9.1)).symm)) .nil))))))), hM⟩
         ·
          clear hA; intro hg32 hA
          refine D.valgF (dj := 65) hA rfl (by kernel_rfl) rfl (fun _ => R.move rfl) rfl ?_; clear hA a; intro a hA
          refine D.valgF (dj := 65) hA rfl (by kernel_rfl) rfl (fun _ => R.move rfl) rfl ?_; clear hA a; intro a hA
          refine D.valgF (dj := 65) hA rfl (by kernel_rfl) rfl (fun _ => R.idxI hrow27 (j := z) sl22 rfl rfl (by omega) (rfl)) rfl ?_; clear hA a; intro a hA
          refine D.valg (dj := 65) hA rfl (by kernel_rfl) (by kernel_rfl) rfl (fun _ hM => R.loadI (hrow27.mem hM) sz3 rfl (by omega)) rfl ?_; clear hA a; intro a hA
          refine D.valgF (dj := 65) hA rfl (by kernel_rfl) rfl (fun _ => R.move rfl) rfl ?_; clear hA a; intro a hA
          refine D.valgF (dj := 65) hA rfl (by kernel_rfl) rfl (fun _ => R.move rfl) rfl ?_; clear hA a; intro a hA
          refine D.valgF (dj := 65) hA rfl (by kernel_rfl) rfl (fun _ => R.idxI hrow27 (j := (chI Rw X z).toNat) sl22 rfl rfl (by omega) (rfl)) rfl ?_; clear hA a; intro a hA
          refine D.valg (dj := 65) hA rfl (by kernel_rfl) (by kernel_rfl) rfl (fun _ hM => R.loadI (hrow27.mem hM) sz3 rfl (by omega)) rfl ?_; clear hA a; intro a hA
          refine D.valgF (dj := 65) hA rfl (by kernel_rfl) rfl (fun _ => R.lss rfl rfl) rfl ?_; clear hA a; intro a hA
          refine D.valgF (dj := 62) hA rfl (by kernel_rfl) rfl (fun _ => R.pickF rfl rfl) rfl ?_; clear hA a; intro a hA
          refine D.valF hA rfl (fun _ => R.pickT rfl rfl) rfl ?_; clear hA a; intro a hA
          refine D.done ?_
          replace hA : St 85 [(1, _), (5, _), (6, _), (7, _), (8, _), (9, _), (76, _)] a := hA.sub ((.cons rfl (.cons rfl (.cons rfl (.cons rfl (.cons rfl (.cons rfl (.cons rfl .nil))))))))
          exact hJ _ _ ⟨hA.sub (.cons rfl (.cons rfl (.cons rfl (.cons rfl (.cons rfl (.cons rfl (.cons (by first | rfl | exact congrArg (fun b => some (Value.bool b)) (by first | exact decide_eq_decide.2 (by omega) | exact or_bool (by omega) | exact and_bool (by omega) | (simp; done) | (simp [hg31, hg32]; done) | (have h80 := hg31; (try simp at h80); have h81 := hg32; (try simp at h81); simp [h80, h81]; done) | exact (decide_eq_false (fun h9 => hg31 h9.1)).symm | exact (decide_eq_false (fun h9 => hg32 h9.1)).symm)) .nil))))))), hM⟩
        ·
         clear hA; intro hg31 hA
         refine D.no (dj := 62) hA rfl (by kernel_rfl) rfl rfl rfl ?_; clear hA a; intro a hA
         refine D.no (dj := 62) hA rfl (by kernel_rfl) rfl rfl rfl ?_; clear hA a; intro a hA
         refine D.no (dj := 62) hA rfl (by kernel_rfl) rfl rfl rfl ?_; clear hA a; intro a hA
         refine D.noU (dj := 65) hA rfl (by kernel_rfl) rfl rfl ?_; clear hA a; intro a hA
         refine D.noU (dj := 65) hA rfl (by kernel_rfl) rfl rfl ?_; clear hA a; intro a hA
         refine D.noU (dj := 65) hA rfl (by kernel_rfl) rfl rfl ?_; clear hA a; intro a hA
         refine D.noU (dj := 65) hA rfl (by kernel_rfl) rfl rfl ?_; clear hA a; intro a hA
         refine D.noU (dj := 65) hA rfl (by kernel_rfl) rfl rfl ?_; clear hA a; intro a hA
         refine D.noU (dj := 65) hA rfl (by kernel_rfl) rfl rfl ?_; clear hA a; intro a hA
         refine D.noU (dj := 65) hA rfl (by kernel_rfl) rfl rfl ?_; clear hA a; intro a hA
         refine D.noU (dj := 65) hA rfl (by kernel_rfl) rfl rfl ?_; clear hA a; intro a hA
         refine D.noU (dj := 65) hA rfl (by kernel_rfl) rfl rfl ?_; clear hA a; intro a hA
         refine D.no (dj := 62) hA rfl (by kernel_rfl) rfl rfl rfl ?_; clear hA a; intro a hA
         refine D.valF hA rfl (fun _ => R.pickF rfl rfl) rfl ?_; clear hA a; intro a hA
         refine D.done ?_
         replace hA : St 85 [(1, _), (5, _), (6, _), (7, _), (8, _), (9, _), (76, _)] a := hA.sub ((.cons rfl (.cons rfl (.cons rfl (.cons rfl (.cons rfl (.cons rfl (.cons rfl .nil))))))))
         exact hJ _ _ ⟨hA.sub (.cons rfl (.cons rfl (.cons rfl (.cons rfl (.cons rfl (.cons rfl (.cons (by first | rfl | exact congrArg (fun b => some (Value.bool b)) (by first | exact decide_eq_decide.2 (by omega) | exact or_bool (by omega) | exact and_bool (by omega) | (simp; done) | (simp [hg31]; done) | (have h80 := hg31; (try simp at h80); simp [h80]; done) | exact (decide_eq_false (fun h9 => hg31 h9.1)).symm)) .nil))))))), hM⟩
      ·
       have hze : z = i.n.toNat := by omega
       refine Ends.exit rfl ?_
       replace hA : St 85 [(1, _), (5, _), (6, _), (8, _)] a := hA.sub ((.cons rfl (.cons rfl (.cons rfl (.cons rfl .nil)))))
       refine Ends.seq ?_
       rw [hze, hq] at hA
       refine Ends.region ?_
       refine S.val hA (R.move rfl) rfl ?_; clear hA a; intro a hA
       refine S.val hA (R.indexAddrA (q := q) ar52 rfl rfl (by omega) (by omega)) rfl ?_; clear hA a; intro a hA
       refine S.store (k := 1) hA hM sz4 rfl rfl rfl rfl (boo_get _ _ (by omega)) ?_; clear hM
       intro w12 hM
       rw [boo_set] at hM
       replace hM : Mem _ _ [own 3 1 (.slice ya X.length yc) X.length (X.map (Value.int .i64)), pt b9 ((boo (U.set q true))) 52, pt b1 #[.int .i64 i.kind, .int .i64 i.n, .int .i64 i.cap, .slice ax3 i.wt.length cx3, .slice ax4 i.vl.length cx4, .slice ax5 i.cost.length cx5] 25] _ := hM
       refine S.done ?_
       refine Ends.region ?_
       refine S.val hA (R.move rfl) rfl ?_; clear hA a; intro a hA
       refine S.val hA (R.move rfl) rfl ?_; clear hA a; intro a hA
       refine S.buildSl (cells := #[.int .i64 ((q : Int))]) hA hM Try.underlying22 info3 rfl rfl rfl rfl (by kernel_rfl) rfl ?_; clear hA hM a; intro b33 w13 hb34 hM a hA
       replace hM : Mem _ _ [pt b33 #[.int .i64 ((q : Int))] 3, own 3 1 (.slice ya X.length yc) X.length (X.map (Value.int .i64)), pt b9 ((boo (U.set q true))) 52, pt b1 #[.int .i64 i.kind, .int .i64 i.n, .int .i64 i.cap, .slice ax3 i.wt.length cx3, .slice ax4 i.vl.length cx4, .slice ax5 i.cost.length cx5] 25] _ := hM
       refine S.append (k := 1) (k2 := 0) hA hM rfl rfl Try.underlying22 info3 rfl rfl rfl rfl rfl rfl rfl rfl rfl (by first | decide | (unfold maxLen; omega) | (show (_ + 1) * 8 ≤ (140737488355328 : Nat); omega) | omega) (by first | decide | (unfold maxLen; omega) | (show (_ + 1) * 8 ≤ (140737488355328 : Nat); omega) | omega) rfl ?_; clear hA hM a; intro a35 c36 w14 hM a hA
       replace hM : Mem _ _ [pt b33 #[.int .i64 ((q : Int))] 3, own 3 1 (.slice a35 (X.length + 1) c36) (X.length + 1) (X.map (Value.int .i64) ++ [.int .i64 ((q : Int))]), pt b9 ((boo (U.set q true))) 52, pt b1 #[.int .i64 i.kind, .int .i64 i.n, .int .i64 i.cap, .slice ax3 i.wt.length cx3, .slice ax4 i.vl.length cx4, .slice ax5 i.cost.length cx5] 25] _ := hM
       have hl37 : X.length + 1 = (X ++ [(q : Int)]).length := by simp
       rw [hl37, show X.map (Value.int .i64) ++ [.int .i64 ((q : Int))] = (X ++ [(q : Int)]).map (Value.int .i64) by simp] at hM; rw [hl37] at hA
       clear hl37
       replace hM := hM.drop 0
       replace hM : Mem _ _ [own 3 1 (.slice a35 (((X ++ [(q : Int)])).length) c36) (((X ++ [(q : Int)])).length) (((X ++ [(q : Int)])).map (Value.int .i64)), pt b9 ((boo (U.set q true))) 52, pt b1 #[.int .i64 i.kind, .int .i64 i.n, .int .i64 i.cap, .slice ax3 i.wt.length cx3, .slice ax4 i.vl.length cx4, .slice ax5 i.cost.length cx5] 25] _ := hM
       refine S.val hA (R.assign rfl) rfl ?_; clear hA a; intro a hA
       refine S.done ?_
       replace hA : St 85 [(1, _), (5, _), (6, _)] a := hA.sub ((.cons rfl (.cons rfl (.cons rfl .nil))))
       refine Ends.inBlock ?_
       replace hM := hM.front (k := 2) rfl
       replace hM := hM.front (k := 2) rfl
       replace hM := hM.front (k := 2) rfl
       replace hM : Mem _ _ [own 3 1 (.slice a35 (((X ++ [(q : Int)])).length) c36) (((X ++ [(q : Int)])).length) (((X ++ [(q : Int)])).map (Value.int .i64)), pt b9 ((boo (U.set q true))) 52, pt b1 #[.int .i64 i.kind, .int .i64 i.n, .int .i64 i.cap, .slice ax3 i.wt.length cx3, .slice ax4 i.vl.length cx4, .slice ax5 i.cost.length cx5] 25] _ := hM
       exact hNext ((m + 1, (X ++ [(q : Int)]), a35, c36, (U.set q true))) _ _ ((by show i.n.toNat - (m + 1) < i.n.toNat - m; omega)) ⟨hA.sub ((.cons rfl (.cons rfl (.cons rfl .nil)))), hM, (by omega), hst, hus2⟩
     · exact absurd hk3 hc24
    ·
     have hXl : X.length = frm i + m := by rw [hX, rwA_len]
     have hinc := hin m hm
     rw [← hX] at hinc
     have hUl := hus.1
     have hmn : m = i.n.toNat - frm i := by omega
     refine Ends.exit rfl ?_
     refine Ends.seq (Ends.region ?_)
     refine S.val hA (R.move rfl) rfl ?_; clear hA a; intro a hA
     refine S.val hA (R.assign rfl) rfl ?_; clear hA a; intro a hA
     refine S.val hA (R.assign rfl) rfl ?_; clear hA a; intro a hA
     refine S.done ?_
     replace hA : St 85 [(2, _), (3, _)] a := hA.sub ((.cons rfl (.cons rfl .nil)))
     refine Ends.ret2 Try.func25 Try.results25 hA rfl rfl ?_
     rw [hmn] at hX
     subst hX
     have hr := hM.rsl (k := 0) (X := rwA i (i.n.toNat - frm i)) rfl
     rw [show frI i = rwA i (i.n.toNat - frm i) from frI_rw hz hk1, hz]
     exact ⟨_, _, rfl, hr, Mem.trans0 hbs hM.nilL⟩
   ·
    have hk3 := hc13
    have hfr : frm i = 0 := if_neg hk3
    refine Ends.skip (Ends.seq (Ends.block ?_))
    replace hM := hM.front (k := 2) rfl
    replace hM := hM.front (k := 2) rfl
    replace hM := hM.front (k := 2) rfl
    refine Ends.loop (σ := Nat × List Int × Option Addr × Nat × List Bool) (fun (m, X, ya, yc, U) (a : Act) (wv : World) => St 85 [(1, .pointer (some ⟨b1, 0, none⟩)), (5, .pointer (some ⟨b9, 0, none⟩)), (6, .slice ya X.length yc)] a ∧ Mem w nof [own 3 1 (.slice ya X.length yc) X.length (X.map (Value.int .i64)), pt b9 ((boo U)) 52, pt b1 #[.int .i64 i.kind, .int .i64 i.n, .int .i64 i.cap, .slice ax3 i.wt.length cx3, .slice ax4 i.vl.length cx4, .slice ax5 i.cost.length cx5] 25] wv ∧ (frm i + m ≤ i.n.toNat) ∧ (X = rwA i m) ∧ (usOK X 24 U)) (fun (m, X, ya, yc, U) => i.n.toNat - m) ((0, [], (some ⟨b11, 0, none⟩), 0, (List.replicate 24 false))) ⟨hA.sub ((.cons rfl (.cons rfl (.cons rfl .nil)))), hM, (by omega), (if_neg hk3).symm, (us_nil _)⟩ ?_
    clear hA hM a
    rintro ⟨m, X, ya, yc, U⟩ a w15 ⟨hA, hM, hm, hX, hus⟩ hNext
    refine Ends.seq (Ends.seq (Ends.region ?_))
    refine S.val hA (R.move rfl) rfl ?_; clear hA a; intro a hA
    refine S.val hA (R.lenS Try.underlying22 rfl rfl) rfl ?_; clear hA a; intro a hA
    refine S.val hA (R.fieldAddr (q := 1) fi25_1 rfl rfl rfl) rfl ?_; clear hA a; intro a hA
    refine S.val hA (R.load sz3 rfl (hM.cell (k := 2) rfl rfl)) rfl ?_; clear hA a; intro a hA
    refine S.val hA (R.lss rfl rfl) rfl ?_; clear hA a; intro a hA
    refine S.done ?_
    replace hA : St 85 [(1, _), (5, _), (6, _), (32, _)] a := hA.sub ((.cons rfl (.cons rfl (.cons rfl (.cons rfl .nil)))))
    refine Ends.ite hA rfl (fun hc38 => ?_) (fun hc38 => ?_)
    ·
     have hXl : X.length = frm i + m := by rw [hX, rwA_len]
     have hinc := hin m hm
     rw [← hX] at hinc
     have hUl := hus.1
     refine Ends.skip (Ends.block (Ends.seq (Ends.region ?_)))
     refine S.val hA (R.fieldAddr (q := 5) fi25_5 rfl rfl rfl) rfl ?_; clear hA a; intro a hA
     refine S.val hA (R.load sz23 rfl (hM.cell (k := 2) rfl rfl)) rfl ?_; clear hA a; intro a hA
     refine S.val hA (R.move rfl) rfl ?_; clear hA a; intro a hA
     refine S.val hA (R.lenS Try.underlying22 rfl rfl) rfl ?_; clear hA a; intro a hA
     refine S.val hA (R.idxR hx5 (j := X.length) sl23 rfl rfl (by omega) (rfl)) rfl ?_; clear hA a; intro a hA
     obtain ⟨ra39, rc40, hrow41, hld42⟩ := hx5.atP (i := X.length) (by omega)
     refine S.val hA (hld42 _ _ _ _ _ _ hM sz22 rfl) rfl ?_; clear hA a; intro a hA
     refine S.val hA (R.assign rfl) rfl ?_; clear hA a; intro a hA
     refine S.done ?_
     replace hA : St 85 [(1, _), (5, _), (6, _), (7, _)] a := hA.sub ((.cons rfl (.cons rfl (.cons rfl (.cons rfl .nil)))))
     refine Ends.seq (Ends.seq (Ends.region ?_))
     refine S.val hA (R.fieldAddr (q := 0) fi25_0 rfl rfl rfl) rfl ?_; clear hA a; intro a hA
     refine S.val hA (R.load sz3 rfl (hM.cell (k := 2) rfl rfl)) rfl ?_; clear hA a; intro a hA
     refine S.val hA (R.eql rfl rfl) rfl ?_; clear hA a; intro a hA
     refine S.done ?_
     refine Ends.ite hA rfl (fun hc43 => ?_) (fun hc43 => ?_)
     · exact absurd hc43 hk3
     ·
      refine Ends.skip (Ends.seq ?_)
      have hrl := hrow X.length (by omega)
      obtain ⟨Rw, hRw0⟩ : ∃ Rw, Rw = i.cost.getD X.length [] := ⟨_, rfl⟩
      have hRw : rowOf i X = Rw := by rw [hRw0]; unfold rowOf; rw [if_neg hk3]
      rw [← hRw0] at hA hrow41 hrl
      obtain ⟨q, hq⟩ : ∃ q : Nat, chI Rw X i.n.toNat = (q : Int) := ⟨(chI Rw X i.n.toNat).toNat, by have := chI_pos Rw X i.n.toNat (free_col (by omega)); omega⟩
      have hqn : q < i.n.toNat := by have := chI_bd Rw X i.n.toNat; omega
      have hst : X ++ [(q : Int)] = rwA i (m + 1) := by rw [rwA, ← hX, hRw, hq]
      have hus2 := us_add hus (q := q) (by omega)
      refine Ends.region ?_
      refine S.val hA (R.to (v := .int .i64 (chI Rw X 0)) (R.assign rfl) (rfl)) rfl ?_; clear hA a; intro a hA
      refine S.done ?_
      refine Ends.seq (Ends.seq (Ends.region ?_))
      refine S.val hA (R.assign rfl) rfl ?_; clear hA a; intro a hA
      refine S.done ?_
      refine Ends.block ?_
      refine Ends.loop (σ := Nat) (fun z (a : Act) (wv : World) => St 85 [(1, .pointer (some ⟨b1, 0, none⟩)), (5, .pointer (some ⟨b9, 0, none⟩)), (6, .slice ya X.length yc), (7, .slice ra39 Rw.length rc40), (8, .int .i64 (chI Rw X z)), (9, .int .i64 ((z : Int)))] a ∧ Mem w nof [own 3 1 (.slice ya X.length yc) X.length (X.map (Value.int .i64)), pt b9 ((boo U)) 52, pt b1 #[.int .i64 i.kind, .int .i64 i.n, .int .i64 i.cap, .slice ax3 i.wt.length cx3, .slice ax4 i.vl.length cx4, .slice ax5 i.cost.length cx5] 25] wv ∧ (z ≤ i.n.toNat)) (fun z => i.n.toNat - z) 0 ⟨hA.sub ((.cons rfl (.cons rfl (.cons rfl (.cons rfl (.cons rfl (.cons rfl .nil))))))), hM, (Nat.zero_le _)⟩ ?_
      clear hA hM a
      rintro z a w16 ⟨hA, hM, hkz⟩ hNext1
      refine Ends.seq (Ends.seq (Ends.region ?_))
      refine S.val hA (R.move rfl) rfl ?_; clear hA a; intro a hA
      refine S.val hA (R.fieldAddr (q := 1) fi25_1 rfl rfl rfl) rfl ?_; clear hA a; intro a hA
      refine S.val hA (R.load sz3 rfl (hM.cell (k := 2) rfl rfl)) rfl ?_; clear hA a; intro a hA
      refine S.val hA (R.lss rfl rfl) rfl ?_; clear hA a; intro a hA
      refine S.done ?_
      refine Ends.ite hA rfl (fun hc44 => ?_) (fun hc44 => ?_)
      ·
       have hcb := chI_bd Rw X z
       have hu := hus.2 z (by omega)
       refine Ends.skip (Ends.seq (Ends.block (Ends.seq ?_)))
       refine Ends.cut (fun (a : Act) (wv : World) => St 85 [(1, .pointer (some ⟨b1, 0, none⟩)), (5, .pointer (some ⟨b9, 0, none⟩)), (6, .slice ya X.length yc), (7, .slice ra39 Rw.length rc40), (8, .int .i64 (chI Rw X z)), (9, .int .i64 ((z : Int))), (76, .bool (decide ((¬ ((z : Int) ∈ X) ∧ ((chI Rw X z) < 0 ∨ (Rw.getD z 0) < (Rw.getD ((chI Rw X z).toNat) 0))))))] a ∧ Mem w nof [own 3 1 (.slice ya X.length yc) X.length (X.map (Value.int .i64)), pt b9 ((boo U)) 52, pt b1 #[.int .i64 i.kind, .int .i64 i.n, .int .i64 i.cap, .slice ax3 i.wt.length cx3, .slice ax4 i.vl.length cx4, .slice ax5 i.cost.length cx5] 25] wv) ?_ (fun k2 hJ => ?_)
       ·
        clear hA hM a; rintro a w17 ⟨hA, hM⟩
        refine Ends.ite hA rfl (fun hc45 => ?_) (fun hc45 => ?_)
        ·
         have hs9 : chI Rw X (z + 1) = (z : Int) := by
          rw [chI]; exact if_pos hc45
         refine Ends.region ?_
         refine S.val hA (R.move rfl) rfl ?_; clear hA a; intro a hA
         refine S.val hA (R.to (v := .int .i64 (chI Rw X (z + 1))) (R.assign rfl) (congrArg (Value.int .i64) hs9.symm)) rfl ?_; clear hA a; intro a hA
         refine S.done ?_
         refine Ends.inBlock (Ends.region ?_)
         refine S.val hA (R.move rfl) rfl ?_; clear hA a; intro a hA
         refine S.val hA (R.addI rfl rfl (r := ((z : Int)) + 1) rfl (by omega)) rfl ?_; clear hA a; intro a hA
         refine S.val hA (R.assign rfl) rfl ?_; clear hA a; intro a hA
         refine S.done ?_
         replace hA : St 85 [(1, _), (5, _), (6, _), (7, _), (8, _), (9, _)] a := hA.sub ((.cons rfl (.cons rfl (.cons rfl (.cons rfl (.cons rfl (.cons rfl .nil)))))))
         exact hNext1 ((z + 1)) _ _ ((by show i.n.toNat - (z + 1) < i.n.toNat - z; omega)) ⟨hA.sub ((.cons rfl (.cons rfl (.cons rfl (.cons rfl (.cons rfl (.cons rfl .nil))))))), hM, (by omega)⟩
        ·
         have hs9 : chI Rw X (z + 1) = chI Rw X z := by
          rw [chI]; exact if_neg hc45
         refine Ends.skip (Ends.inBlock (Ends.region ?_))
         refine S.val hA (R.move rfl) rfl ?_; clear hA a; intro a hA
         refine S.val hA (R.addI rfl rfl (r := ((z : Int)) + 1) rfl (by omega)) rfl ?_; clear hA a; intro a hA
         refine S.val hA (R.assign rfl) rfl ?_; clear hA a; intro a hA
         refine S.done ?_
         rw [← hs9] at hA
         exact hNext1 ((z + 1)) _ _ ((by show i.n.toNat - (z + 1) < i.n.toNat - z; omega)) ⟨hA.sub ((.cons rfl (.cons rfl (.cons rfl (.cons rfl (.cons rfl (.cons rfl .nil))))))), hM, (by omega)⟩
       ·
        refine Ends.drawn (Mem w nof [own 3 1 (.slice ya X.length yc) X.length (X.map (Value.int .i64)), pt b9 ((boo U)) 52, pt b1 #[.int .i64 i.kind, .int .i64 i.n, .int .i64 i.cap, .slice ax3 i.wt.length cx3, .slice ax4 i.vl.length cx4, .slice ax5 i.cost.length cx5] 25]) (.cons (0, true) (.cons (1, true) (.cons (2, true) (.cons (3, true) (.cons (4, true) (.cons (5, true) (.cons (6, true) (.cons (7, true) (.cons (8, true) (.cons (9, true) (.cons (10, true) (.cons (11, true) (.cons (12, true) (.cons (13, true) (.cons (14, true) (.cons (15, true) (.cons (16, true) (.cons (17, true) (.cons (18, true) .nil))))))))))))))))))) 19 mixed (by kernel_rfl) (by kernel_rfl) (by kernel_rfl) hM.drew ?_
        replace hM := hM.drew
        refine D.valF hA rfl (fun _ => R.move rfl) rfl ?_; clear hA a; intro a hA
        refine D.valF hA rfl (fun _ => R.indexAddrA (q := z) ar52 rfl rfl (by omega) (by omega)) rfl ?_; clear hA a; intro a hA
        refine D.val hA rfl (by kernel_rfl) (fun _ hM => R.to (v := .bool (decide ((z : Int) ∈ X))) (R.load sz4 rfl (hM.cell (k := 1) rfl (boo_get U z (by omega)))) (congrArg Value.bool hu)) rfl ?_; clear hA a; intro a hA
        refine D.valF hA rfl (fun _ => R.notD rfl) rfl ?_; clear hA a; intro a hA
        refine D.valF hA rfl (fun _ => R.move rfl) rfl ?_; clear hA a; intro a hA
        refine hA.split (d := 62) rfl ?_ ?_
        ·
         clear hA; intro hg46 hA
         refine D.valgF (dj := 62) hA rfl (by kernel_rfl) rfl (fun _ => R.move rfl) rfl ?_; clear hA a; intro a hA
         refine D.valgF (dj := 62) hA rfl (by kernel_rfl) rfl (fun _ => R.lss rfl rfl) rfl ?_; clear hA a; intro a hA
         refine D.valgF (dj := 62) hA rfl (by kernel_rfl) rfl (fun _ => R.move rfl) rfl ?_; clear hA a; intro a hA
         refine hA.split (d := 65) rfl ?_ ?_
         ·
          clear hA; intro hg47 hA
          refine D.no (dj := 65) hA rfl (by kernel_rfl) rfl rfl rfl ?_; clear hA a; intro a hA
          refine D.no (dj := 65) hA rfl (by kernel_rfl) rfl rfl rfl ?_; clear hA a; intro a hA
          refine D.no (dj := 65) hA rfl (by kernel_rfl) rfl rfl rfl ?_; clear hA a; intro a hA
          refine D.no (dj := 65) hA rfl (by kernel_rfl) rfl rfl rfl ?_; clear hA a; intro a hA
          refine D.no (dj := 65) hA rfl (by kernel_rfl) rfl rfl rfl ?_; clear hA a; intro a hA
          refine D.no (dj := 65) hA rfl (by kernel_rfl) rfl rfl rfl ?_; clear hA a; intro a hA
          refine D.no (dj := 65) hA rfl (by kernel_rfl) rfl rfl rfl ?_; clear hA a; intro a hA
          refine D.no (dj := 65) hA rfl (by kernel_rfl) rfl rfl rfl ?_; clear hA a; intro a hA
          refine D.no (dj := 65) hA rfl (by kernel_rfl) rfl rfl rfl ?_; clear hA a; intro a hA
          refine D.valgF (dj := 62) hA rfl (by kernel_rfl) rfl (fun _ => R.pickT rfl rfl) rfl ?_; clear hA a; intro a hA
          refine D.valF hA rfl (fun _ => R.pickT rfl rfl) rfl ?_; clear hA a; intro a hA
          refine D.done ?_
          replace hA : St 85 [(1, _), (5, _), (6, _), (7, _), (8, _), (9, _), (76, _)] a := hA.sub ((.cons rfl (.cons rfl (.cons rfl (.cons rfl (.cons rfl (.cons rfl (.cons rfl .nil))))))))
          exact hJ _ _ ⟨hA.sub (.cons rfl (.cons rfl (.cons rfl (.cons rfl (.cons rfl (.cons rfl (.cons (by first | rfl | exact congrArg (fun b => some (Value.bool b)) (by first | exact decide_eq_decide.2 (by omega) | exact or_bool (by omega) | exact and_bool (by omega) | (simp; done) | (simp [hg46, hg47]; done) | (have h80 := hg46; (try simp at h80); have h81 := hg47; (try simp at h81); simp [h80, h81]; done) | exact (decide_eq_false (fun h9 => hg46 h9.1)).symm | exact (decide_eq_false (fun h9 => hg47 h9.1)).symm)) .nil))))))), hM⟩
         ·
          clear hA; intro hg47 hA
          refine D.valgF (dj := 65) hA rfl (by kernel_rfl) rfl (fun _ => R.move rfl) rfl ?_; clear hA a; intro a hA
          refine D.valgF (dj := 65) hA rfl (by kernel_rfl) rfl (fun _ => R.move rfl) rfl ?_; clear hA a; intro a hA
          refine D.valgF (dj := 65) hA rfl (by kernel_rfl) rfl (fun _ => R.idxI hrow41 (j := z) sl22 rfl rfl (by omega) (rfl)) rfl ?_; clear hA a; intro a hA
          refine D.valg (dj := 65) hA rfl (by kernel_rfl) (by kernel_rfl) rfl (fun _ hM => R.loadI (hrow41.mem hM) sz3 rfl (by omega)) rfl ?_; clear hA a; intro a hA
          refine D.valgF (dj := 65) hA rfl (by kernel_rfl) rfl (fun _ => R.move rfl) rfl ?_; clear hA a; intro a hA
          refine D.valgF (dj := 65) hA rfl (by kernel_rfl) rfl (fun _ => R.move rfl) rfl ?_; clear hA a; intro a hA
          refine D.valgF (dj := 65) hA rfl (by kernel_rfl) rfl (fun _ => R.idxI hrow41 (j := (chI Rw X z).toNat) sl22 rfl rfl (by omega) (rfl)) rfl ?_; clear hA a; intro a hA
          refine D.valg (dj := 65) hA rfl (by kernel_rfl) (by kernel_rfl) rfl (fun _ hM => R.loadI (hrow41.mem hM) sz3 rfl (by omega)) rfl ?_; clear hA a; intro a hA
          refine D.valgF (dj := 65) hA rfl (by kernel_rfl) rfl (fun _ => R.lss rfl rfl) rfl ?_; clear hA a; intro a hA
          refine D.valgF (dj := 62) hA rfl (by kernel_rfl) rfl (fun _ => R.pickF rfl rfl) rfl ?_; clear hA a; intro a hA
          refine D.valF hA rfl (fun _ => R.pickT rfl rfl) rfl ?_; clear hA a; intro a hA
          refine D.done ?_
          replace hA : St 85 [(1, _), (5, _), (6, _), (7, _), (8, _), (9, _), (76, _)] a := hA.sub ((.cons rfl (.cons rfl (.cons rfl (.cons rfl (.cons rfl (.cons rfl (.cons rfl .nil))))))))
          exact hJ _ _ ⟨hA.sub (.cons rfl (.cons rfl (.cons rfl (.cons rfl (.cons rfl (.cons rfl (.cons (by first | rfl | exact congrArg (fun b => some (Value.bool b)) (by first | exact decide_eq_decide.2 (by omega) | exact or_bool (by omega) | exact and_bool (by omega) | (simp; done) | (simp [hg46, hg47]; done) | (have h80 := hg46; (try simp at h80); have h81 := hg47; (try simp at h81); simp [h80, h81]; done) | exact (decide_eq_false (fun h9 => hg46 h9.1)).symm | exact (decide_eq_false (fun h9 => hg47 h9.1)).symm)) .nil))))))), hM⟩
        ·
         clear hA; intro hg46 hA
         refine D.no (dj := 62) hA rfl (by kernel_rfl) rfl rfl rfl ?_; clear hA a; intro a hA
         refine D.no (dj := 62) hA rfl (by kernel_rfl) rfl rfl rfl ?_; clear hA a; intro a hA
         refine D.no (dj := 62) hA rfl (by kernel_rfl) rfl rfl rfl ?_; clear hA a; intro a hA
         refine D.noU (dj := 65) hA rfl (by kernel_rfl) rfl rfl ?_; clear hA a; intro a hA
         refine D.noU (dj := 65) hA rfl (by kernel_rfl) rfl rfl ?_; clear hA a; intro a hA
         refine D.noU (dj := 65) hA rfl (by kernel_rfl) rfl rfl ?_; clear hA a; intro a hA
         refine D.noU (dj := 65) hA rfl (by kernel_rfl) rfl rfl ?_; clear hA a; intro a hA
         refine D.noU (dj := 65) hA rfl (by kernel_rfl) rfl rfl ?_; clear hA a; intro a hA
         refine D.noU (dj := 65) hA rfl (by kernel_rfl) rfl rfl ?_; clear hA a; intro a hA
         refine D.noU (dj := 65) hA rfl (by kernel_rfl) rfl rfl ?_; clear hA a; intro a hA
         refine D.noU (dj := 65) hA rfl (by kernel_rfl) rfl rfl ?_; clear hA a; intro a hA
         refine D.noU (dj := 65) hA rfl (by kernel_rfl) rfl rfl ?_; clear hA a; intro a hA
         refine D.no (dj := 62) hA rfl (by kernel_rfl) rfl rfl rfl ?_; clear hA a; intro a hA
         refine D.valF hA rfl (fun _ => R.pickF rfl rfl) rfl ?_; clear hA a; intro a hA
         refine D.done ?_
         replace hA : St 85 [(1, _), (5, _), (6, _), (7, _), (8, _), (9, _), (76, _)] a := hA.sub ((.cons rfl (.cons rfl (.cons rfl (.cons rfl (.cons rfl (.cons rfl (.cons rfl .nil))))))))
         exact hJ _ _ ⟨hA.sub (.cons rfl (.cons rfl (.cons rfl (.cons rfl (.cons rfl (.cons rfl (.cons (by first | rfl | exact congrArg (fun b => some (Value.bool b)) (by first | exact decide_eq_decide.2 (by omega) | exact or_bool (by omega) | exact and_bool (by omega) | (simp; done) | (simp [hg46]; done) | (have h80 := hg46; (try simp at h80); simp [h80]; done) | exact (decide_eq_false (fun h9 => hg46 h9.1)).symm)) .nil))))))), hM⟩
      ·
       have hze : z = i.n.toNat := by omega
       refine Ends.exit rfl ?_
       replace hA : St 85 [(1, _), (5, _), (6, _), (8, _)] a := hA.sub ((.cons rfl (.cons rfl (.cons rfl (.cons rfl .nil)))))
       refine Ends.seq ?_
       rw [hze, hq] at hA
       refine Ends.region ?_
       refine S.val hA (R.move rfl) rfl ?_; clear hA a; intro a hA
       refine S.val hA (R.indexAddrA (q := q) ar52 rfl rfl (by omega) (by omega)) rfl ?_; clear hA a; intro a hA
       refine S.store (k := 1) hA hM sz4 rfl rfl rfl rfl (boo_get _ _ (by omega)) ?_; clear hM
       intro w18 hM
       rw [boo_set] at hM
       replace hM : Mem _ _ [own 3 1 (.slice ya X.length yc) X.length (X.map (Value.int .i64)), pt b9 ((boo (U.set q true))) 52, pt b1 #[.int .i64 i.kind, .int .i64 i.n, .int .i64 i.cap, .slice ax3 i.wt.length cx3, .slice ax4 i.vl.length cx4, .slice ax5 i.cost.length cx5] 25] _ := hM
       refine S.done ?_
       refine Ends.region ?_
       refine S.val hA (R.move rfl) rfl ?_; clear hA a; intro a hA
       refine S.val hA (R.move rfl) rfl ?_; clear hA a; intro a hA
       refine S.buildSl (cells := #[.int .i64 ((q : Int))]) hA hM Try.underlying22 info3 rfl rfl rfl rfl (by kernel_rfl) rfl ?_; clear hA hM a; intro b48 w19 hb49 hM a hA
       replace hM : Mem _ _ [pt b48 #[.int .i64 ((q : Int))] 3, own 3 1 (.slice ya X.length yc) X.length (X.map (Value.int .i64)), pt b9 ((boo (U.set q true))) 52, pt b1 #[.int .i64 i.kind, .int .i64 i.n, .int .i64 i.cap, .slice ax3 i.wt.length cx3, .slice ax4 i.vl.length cx4, .slice ax5 i.cost.length cx5] 25] _ := hM
       refine S.append (k := 1) (k2 := 0) hA hM rfl rfl Try.underlying22 info3 rfl rfl rfl rfl rfl rfl rfl rfl rfl (by first | decide | (unfold maxLen; omega) | (show (_ + 1) * 8 ≤ (140737488355328 : Nat); omega) | omega) (by first | decide | (unfold maxLen; omega) | (show (_ + 1) * 8 ≤ (140737488355328 : Nat); omega) | omega) rfl ?_; clear hA hM a; intro a50 c51 w20 hM a hA
       replace hM : Mem _ _ [pt b48 #[.int .i64 ((q : Int))] 3, own 3 1 (.slice a50 (X.length + 1) c51) (X.length + 1) (X.map (Value.int .i64) ++ [.int .i64 ((q : Int))]), pt b9 ((boo (U.set q true))) 52, pt b1 #[.int .i64 i.kind, .int .i64 i.n, .int .i64 i.cap, .slice ax3 i.wt.length cx3, .slice ax4 i.vl.length cx4, .slice ax5 i.cost.length cx5] 25] _ := hM
       have hl52 : X.length + 1 = (X ++ [(q : Int)]).length := by simp
       rw [hl52, show X.map (Value.int .i64) ++ [.int .i64 ((q : Int))] = (X ++ [(q : Int)]).map (Value.int .i64) by simp] at hM; rw [hl52] at hA
       clear hl52
       replace hM := hM.drop 0
       replace hM : Mem _ _ [own 3 1 (.slice a50 (((X ++ [(q : Int)])).length) c51) (((X ++ [(q : Int)])).length) (((X ++ [(q : Int)])).map (Value.int .i64)), pt b9 ((boo (U.set q true))) 52, pt b1 #[.int .i64 i.kind, .int .i64 i.n, .int .i64 i.cap, .slice ax3 i.wt.length cx3, .slice ax4 i.vl.length cx4, .slice ax5 i.cost.length cx5] 25] _ := hM
       refine S.val hA (R.assign rfl) rfl ?_; clear hA a; intro a hA
       refine S.done ?_
       replace hA : St 85 [(1, _), (5, _), (6, _)] a := hA.sub ((.cons rfl (.cons rfl (.cons rfl .nil))))
       refine Ends.inBlock ?_
       replace hM := hM.front (k := 2) rfl
       replace hM := hM.front (k := 2) rfl
       replace hM := hM.front (k := 2) rfl
       replace hM : Mem _ _ [own 3 1 (.slice a50 (((X ++ [(q : Int)])).length) c51) (((X ++ [(q : Int)])).length) (((X ++ [(q : Int)])).map (Value.int .i64)), pt b9 ((boo (U.set q true))) 52, pt b1 #[.int .i64 i.kind, .int .i64 i.n, .int .i64 i.cap, .slice ax3 i.wt.length cx3, .slice ax4 i.vl.length cx4, .slice ax5 i.cost.length cx5] 25] _ := hM
       exact hNext ((m + 1, (X ++ [(q : Int)]), a50, c51, (U.set q true))) _ _ ((by show i.n.toNat - (m + 1) < i.n.toNat - m; omega)) ⟨hA.sub ((.cons rfl (.cons rfl (.cons rfl .nil)))), hM, (by omega), hst, hus2⟩
    ·
     have hXl : X.length = frm i + m := by rw [hX, rwA_len]
     have hinc := hin m hm
     rw [← hX] at hinc
     have hUl := hus.1
     have hmn : m = i.n.toNat - frm i := by omega
     refine Ends.exit rfl ?_
     refine Ends.seq (Ends.region ?_)
     refine S.val hA (R.move rfl) rfl ?_; clear hA a; intro a hA
     refine S.val hA (R.assign rfl) rfl ?_; clear hA a; intro a hA
     refine S.val hA (R.assign rfl) rfl ?_; clear hA a; intro a hA
     refine S.done ?_
     replace hA : St 85 [(2, _), (3, _)] a := hA.sub ((.cons rfl (.cons rfl .nil)))
     refine Ends.ret2 Try.func25 Try.results25 hA rfl rfl ?_
     rw [hmn] at hX
     subst hX
     have hr := hM.rsl (k := 0) (X := rwA i (i.n.toNat - frm i)) rfl
     rw [show frI i = rwA i (i.n.toNat - frm i) from frI_rw hz hk1, hz]
     exact ⟨_, _, rfl, hr, Mem.trans0 hbs hM.nilL⟩
end Go.Proofs.Ytnikajkklocncaa
namespace Go.Proofs.Ytnikajkklocncaa
theorem ext_getD {X Y : List Int} (hl : X.length = Y.length) (h : ∀ t, t < X.length → X.getD t 0 = Y.getD t 0) : X = Y :=
  List.ext_getElem hl fun t h1 h2 => by
    have := h t h1
    simpa [List.getD, h1, h2] using this
theorem getD_set (X : List Int) (i t : Nat) (v : Int) (hi : i < X.length) : (X.set i v).getD t 0 = if t = i then v else X.getD t 0 := by
  rw [List.getD_eq_getElem?_getD, List.getElem?_set]
  by_cases e : i = t
  · subst e; simp [hi]
  · rw [if_neg e, if_neg (fun h => e h.symm), List.getD_eq_getElem?_getD]
def swp (X : List Int) (i j : Nat) : List Int := (X.set i (X.getD j 0)).set j (X.getD i 0)
theorem swp_get {X : List Int} {i j t : Nat} (hi : i < X.length) (hj : j < X.length) : (swp X i j).getD t 0 = if t = j then X.getD i 0 else if t = i then X.getD j 0 else X.getD t 0 := by
  unfold swp
  rw [getD_set _ _ _ _ (by rw [List.length_set]; exact hj), getD_set _ _ _ _ hi]
def rvIq (X : List Int) (o m i : Nat) (t : Nat) : Int := if o ≤ t ∧ t < o + m ∧ (t < o + i ∨ o + m ≤ t + i) then X.getD (2 * o + m - 1 - t) 0 else X.getD t 0
theorem rvIq_zero (X : List Int) (o m t : Nat) : X.getD t 0 = rvIq X o m 0 t := by
  unfold rvIq; rw [if_neg (by omega)]
theorem rvIq_succ {X Z : List Int} {o m i : Nat} (hl : Z.length = X.length) (hom : o + m ≤ X.length) (hi : i + i + 1 < m) (h : ∀ t, Z.getD t 0 = rvIq X o m i t) (t : Nat) : (swp Z (o + i) (o + (m - 1 - i))).getD t 0 = rvIq X o m (i + 1) t := by
  rw [swp_get (by omega) (by omega), h, h, h]
  unfold rvIq
  by_cases e1 : t = o + (m - 1 - i)
  · rw [if_pos e1, if_neg (by omega), if_pos (by omega)]; congr 1; omega
  · rw [if_neg e1]
    by_cases e2 : t = o + i
    · rw [if_pos e2, if_neg (by omega), if_pos (by omega)]; congr 1; omega
    · rw [if_neg e2]
      by_cases e3 : o ≤ t ∧ t < o + m ∧ (t < o + i ∨ o + m ≤ t + i)
      · rw [if_pos e3, if_pos (by omega)]
      · rw [if_neg e3, if_neg (by omega)]
def revAt (X : List Int) (o m : Nat) : List Int := X.take o ++ ((X.drop o).take m).reverse ++ X.drop (o + m)
theorem revAt_len {X : List Int} {o m : Nat} (h : o + m ≤ X.length) : (revAt X o m).length = X.length := by
  simp only [revAt, List.length_append, List.length_take, List.length_reverse, List.length_drop]; omega
theorem rvIq_end {X Z : List Int} {o m i : Nat} (hl : Z.length = X.length) (hom : o + m ≤ X.length) (hi : ¬ i + i + 1 < m) (h : ∀ t, Z.getD t 0 = rvIq X o m i t) : Z = revAt X o m := by
  refine ext_getD (by rw [hl, revAt_len hom]) fun t ht => ?_
  rw [h]
  unfold rvIq revAt
  rw [hl] at ht
  simp only [List.getD_eq_getElem?_getD]
  have l1 : (X.take o).length = o := by rw [List.length_take]; omega
  have l2 : ((X.drop o).take m).length = m := by rw [List.length_take, List.length_drop]; omega
  by_cases c1 : t < o
  · rw [if_neg (by omega), List.append_assoc, List.getElem?_append_left (by omega), List.getElem?_take, if_pos c1]
  · by_cases c2 : t < o + m
    · have hv : (if o ≤ t ∧ t < o + m ∧ (t < o + i ∨ o + m ≤ t + i) then X[2 * o + m - 1 - t]?.getD 0 else X[t]?.getD 0) = X[2 * o + m - 1 - t]?.getD 0 := by
        split
        · rfl
        · congr 2; omega
      rw [hv, List.append_assoc, List.getElem?_append_right (by omega), l1, List.getElem?_append_left (by rw [List.length_reverse]; omega), List.getElem?_reverse (by omega), l2, List.getElem?_take, if_pos (by omega), List.getElem?_drop]
      congr 2; omega
    · rw [if_neg (by omega), List.getElem?_append_right (by rw [List.length_append, List.length_reverse]; omega), List.getElem?_drop, List.length_append, List.length_reverse, l1, l2]
      congr 2; omega
end Go.Proofs.Ytnikajkklocncaa
namespace Go.Proofs.Ytnikajkklocncaa
open Go.RowKit
set_option maxRecDepth 100000 in
set_option maxHeartbeats 400000 in
theorem clone09 (ax : Option Addr) (X : List Int) (cx : Nat) (hX : X.length ≤ 1000) (w : World) (hx : IntSl w (.slice ax X.length cx) X) :
  Calls Try.prog 49 #[.slice ax X.length cx] w fun e w' => ∃ a c, e = .returned (.slice a X.length c) ∧ Mem w nof [own 3 1 (.slice a X.length c) X.length (X.map (Value.int .i64))] w' := by
 have hbs := Below.refl (B := w.heap.size) w
 have hM := Mem.start w
 refine Calls.of_ends (vs := [.slice ax X.length cx]) Try.func49 rfl Try.ntmps49 rfl ?_
 intro a hA
 replace hA : St 8 [(0, _)] a := hA
 refine Ends.seq (Ends.region ?_)
 refine S.val hA (R.assign rfl) rfl ?_; clear hA a; intro a hA
 refine S.done ?_
 replace hA : St 8 [(0, _)] a := hA.sub ((.cons rfl .nil))
 refine Ends.seq (Ends.seq (Ends.region ?_))
 refine S.val hA (R.move rfl) rfl ?_; clear hA a; intro a hA
 refine S.val hA (R.eqlNilS Try.underlying22 rfl rfl) rfl ?_; clear hA a; intro a hA
 refine S.done ?_
 replace hA : St 8 [(0, _), (4, _)] a := hA.sub ((.cons rfl (.cons rfl .nil)))
 refine Ends.iteB hA rfl (fun hc1 => ?_) (fun hc1 => ?_)
 ·
  refine Ends.seq (Ends.region ?_)
  refine S.val hA (R.assign rfl) rfl ?_; clear hA a; intro a hA
  refine S.done ?_
  replace hA : St 8 [(0, _), (2, _)] a := hA.sub ((.cons rfl (.cons rfl .nil)))
  refine Ends.ret1 Try.func49 Try.results49 hA rfl ?_
  have hX0 : X = [] := by obtain ⟨a9, c9, he9, h91, h92, h93, h94⟩ := hx; have hc0 := hc1; cases ax with | some p => cases hc0 | none => (cases he9; exact List.length_eq_zero_iff.1 (by have := h93 rfl; omega))
  subst hX0
  exact ⟨none, 0, rfl, hM.ownNil 3 1⟩
 ·
  refine Ends.skip (Ends.seq (Ends.region ?_))
  refine S.buildSl0 hA hM Try.underlying22 info3 rfl ?_; clear hA hM a; intro b2 w1 hb3 hM a hA
  replace hM := hM.ownPt (cap := 0) (n := 0) (sz := 1) (xs := []) rfl (Nat.zero_le _) (Nat.le_refl _) rfl
  replace hM : Mem _ _ [own 3 1 (.slice ((some ⟨b2, 0, none⟩)) 0 0) 0 ((([] : List Int)).map (Value.int .i64))] _ := hM
  refine S.val hA (R.move rfl) rfl ?_; clear hA a; intro a hA
  refine S.appendI (k := 0) hA hM rfl (hx.mem hM) Try.underlying22 info3 rfl rfl rfl rfl rfl rfl (by first | (unfold maxLen; omega) | (show (0 + _) * 8 ≤ (140737488355328 : Nat); omega)) (by first | (unfold maxLen; omega) | (show (0 + _) * 8 ≤ (140737488355328 : Nat); omega)) rfl ?_; clear hA hM a; intro a4 c5 w2 hM a hA
  have hl6 : 0 + X.length = X.length := by first | (simp; done) | simp only [List.length_append]
  rw [hl6, show (([] : List Int)).map (Value.int .i64) ++ X.map (Value.int .i64) = X.map (Value.int .i64) by simp] at hM; rw [hl6] at hA; clear hl6
  replace hM : Mem _ _ [own 3 1 (.slice a4 X.length c5) X.length (X.map (Value.int .i64))] _ := hM
  refine S.val hA (R.assign rfl) rfl ?_; clear hA a; intro a hA
  refine S.done ?_
  replace hA : St 8 [(2, _)] a := hA.sub ((.cons rfl .nil))
  refine Ends.ret1 Try.func49 Try.results49 hA rfl ?_
  exact ⟨_, _, rfl, hM⟩
set_option maxRecDepth 100000 in
set_option maxHeartbeats 400000 in
theorem rev09 (g o m cap cc : Nat) (X : List Int) (hom : o + m ≤ X.length) (hX : X.length ≤ 1000) (w : World) (hM : Mem w (feet [own 3 1 (.slice ((some ⟨g, 0, none⟩)) X.length cap) X.length (X.map (Value.int .i64))]) [own 3 1 (.slice ((some ⟨g, 0, none⟩)) X.length cap) X.length (X.map (Value.int .i64))] w) :
  Calls Try.prog 73 #[.slice ((some ⟨g, o, none⟩)) m cc] w fun e w' => e = .returned (.tuple #[]) ∧ Mem w (feet [own 3 1 (.slice ((some ⟨g, 0, none⟩)) X.length cap) X.length (X.map (Value.int .i64))]) [own 3 1 (.slice ((some ⟨g, 0, none⟩)) X.length cap) X.length (((revAt X o m)).map (Value.int .i64))] w' := by
 have hbs := Below.refl (B := w.heap.size) w
 refine Calls.of_ends (vs := [.slice ((some ⟨g, o, none⟩)) m cc]) Try.func73 rfl Try.ntmps73 rfl ?_
 intro a hA
 replace hA : St 28 [(0, _)] a := hA
 refine Ends.seq (Ends.region ?_)
 refine S.val hA (R.move rfl) rfl ?_; clear hA a; intro a hA
 refine S.val hA (R.lenS Try.underlying22 rfl rfl) rfl ?_; clear hA a; intro a hA
 refine S.val hA (R.subI rfl rfl (r := ((m : Int)) - 1) rfl (by omega)) rfl ?_; clear hA a; intro a hA
 refine S.val hA (R.assign rfl) rfl ?_; clear hA a; intro a hA
 refine S.val hA (R.assign rfl) rfl ?_; clear hA a; intro a hA
 refine S.done ?_
 replace hA : St 28 [(0, _), (2, _), (3, _)] a := hA.sub ((.cons rfl (.cons rfl (.cons rfl .nil))))
 refine Ends.block ?_
 rw [show (m : Int) - 1 = (m : Int) - 1 - ((0 : Nat) : Int) by omega] at hA
 refine Ends.loop (σ := Nat × List Int) (fun (i, Z) (a : Act) (wv : World) => St 28 [(0, .slice ((some ⟨g, o, none⟩)) m cc), (2, .int .i64 ((i : Int))), (3, .int .i64 (((m : Int) - 1 - (i : Int))))] a ∧ Mem w (feet [own 3 1 (.slice ((some ⟨g, 0, none⟩)) X.length cap) X.length (X.map (Value.int .i64))]) [own 3 1 (.slice ((some ⟨g, 0, none⟩)) X.length cap) X.length (Z.map (Value.int .i64))] wv ∧ (Z.length = X.length) ∧ (i ≤ m) ∧ (∀ t, Z.getD t 0 = rvIq X o m i t)) (fun (i, Z) => m - i) ((0, X)) ⟨hA.sub ((.cons rfl (.cons rfl (.cons rfl .nil)))), hM, rfl, (Nat.zero_le _), (rvIq_zero X o m)⟩ ?_
 clear hA hM a
 rintro ⟨i, Z⟩ a w1 ⟨hA, hM, hZl, hi, hZ⟩ hNext
 refine Ends.seq (Ends.seq (Ends.region ?_))
 refine S.val hA (R.move rfl) rfl ?_; clear hA a; intro a hA
 refine S.val hA (R.move rfl) rfl ?_; clear hA a; intro a hA
 refine S.val hA (R.lss rfl rfl) rfl ?_; clear hA a; intro a hA
 refine S.done ?_
 replace hA : St 28 [(0, _), (2, _), (3, _), (9, _)] a := hA.sub ((.cons rfl (.cons rfl (.cons rfl (.cons rfl .nil)))))
 refine Ends.ite hA rfl (fun hc1 => ?_) (fun hc1 => ?_)
 ·
  refine Ends.skip (Ends.seq (Ends.block ?_))
  refine Ends.drawn (Mem w (feet [own 3 1 (.slice ((some ⟨g, 0, none⟩)) X.length cap) X.length (X.map (Value.int .i64))]) [own 3 1 (.slice ((some ⟨g, 0, none⟩)) X.length cap) X.length (Z.map (Value.int .i64))]) (.cons (0, true) (.cons (1, true) (.cons (2, true) (.cons (3, true) (.cons (4, true) (.cons (5, true) (.cons (6, true) (.cons (7, true) (.cons (8, true) (.cons (9, true) (.cons (10, true) (.cons (11, true) (.cons (12, true) (.cons (13, false) (.cons (14, true) (.cons (15, false) .nil)))))))))))))))) 13 mixed (by kernel_rfl) (by kernel_rfl) (by kernel_rfl) hM.drew ?_
  replace hM := hM.drew
  refine D.valF hA rfl (fun _ => R.move rfl) rfl ?_; clear hA a; intro a hA
  refine D.valF hA rfl (fun _ => R.move rfl) rfl ?_; clear hA a; intro a hA
  refine D.valF hA rfl (fun _ => R.move rfl) rfl ?_; clear hA a; intro a hA
  refine D.valF hA rfl (fun _ => R.move rfl) rfl ?_; clear hA a; intro a hA
  refine D.valF hA rfl (fun _ => R.move rfl) rfl ?_; clear hA a; intro a hA
  refine D.valF hA rfl (fun _ => R.move rfl) rfl ?_; clear hA a; intro a hA
  refine D.valF hA rfl (fun _ => R.indexAddr (q := o + (m - 1 - i)) sl22 rfl rfl (by omega) (by omega)) rfl ?_; clear hA a; intro a hA
  refine D.val hA rfl (by kernel_rfl) (fun _ hM => R.load sz3 rfl (hM.ownCell (k := 0) rfl (mapi_get _ _ (by omega)))) rfl ?_; clear hA a; intro a hA
  refine D.valF hA rfl (fun _ => R.move rfl) rfl ?_; clear hA a; intro a hA
  refine D.valF hA rfl (fun _ => R.move rfl) rfl ?_; clear hA a; intro a hA
  refine D.valF hA rfl (fun _ => R.indexAddr (q := o + i) sl22 rfl rfl (by omega) (by omega)) rfl ?_; clear hA a; intro a hA
  refine D.val hA rfl (by kernel_rfl) (fun _ hM => R.load sz3 rfl (hM.ownCell (k := 0) rfl (mapi_get _ _ (by omega)))) rfl ?_; clear hA a; intro a hA
  refine D.valF hA rfl (fun _ => R.indexAddr (q := o + i) sl22 rfl rfl (by omega) (by omega)) rfl ?_; clear hA a; intro a hA
  refine D.storeO (k := 0) hA hM rfl sz3 rfl rfl rfl rfl (mapi_get Z (o + i) (by first | omega | (simp only [List.length_set]; omega) | (simp; done))) ?_; clear hM; intro w2 hM; rw [mapi_set] at hM
  refine ⟨fun _ hne => absurd rfl hne, ?_⟩
  replace hM : Mem _ _ [own 3 1 (.slice ((some ⟨g, 0, none⟩)) X.length cap) X.length (((Z.set (o + i) (Z.getD (o + (m - 1 - i)) 0))).map (Value.int .i64))] _ := hM
  refine D.valF hA rfl (fun _ => R.indexAddr (q := o + (m - 1 - i)) sl22 rfl rfl (by omega) (by omega)) rfl ?_; clear hA a; intro a hA
  refine D.storeO (k := 0) hA hM rfl sz3 rfl rfl rfl rfl (mapi_get ((Z.set (o + i) (Z.getD (o + (m - 1 - i)) 0))) (o + (m - 1 - i)) (by first | omega | (simp only [List.length_set]; omega) | (simp; done))) ?_; clear hM; intro w3 hM; rw [mapi_set] at hM
  refine ⟨fun hb0 => absurd hb0 (by decide), ?_⟩
  replace hM : Mem _ _ [own 3 1 (.slice ((some ⟨g, 0, none⟩)) X.length cap) X.length ((((Z.set (o + i) (Z.getD (o + (m - 1 - i)) 0)).set (o + (m - 1 - i)) (Z.getD (o + i) 0))).map (Value.int .i64))] _ := hM
  refine D.done ?_
  replace hA : St 28 [(0, _), (2, _), (3, _)] a := hA.sub ((.cons rfl (.cons rfl (.cons rfl .nil))))
  refine Ends.inBlock (Ends.region ?_)
  refine S.val hA (R.move rfl) rfl ?_; clear hA a; intro a hA
  refine S.val hA (R.addI rfl rfl (r := ((i : Int)) + 1) rfl (by omega)) rfl ?_; clear hA a; intro a hA
  refine S.val hA (R.move rfl) rfl ?_; clear hA a; intro a hA
  refine S.val hA (R.subI rfl rfl (r := (((m : Int) - 1 - (i : Int))) - 1) rfl (by omega)) rfl ?_; clear hA a; intro a hA
  refine S.val hA (R.assign rfl) rfl ?_; clear hA a; intro a hA
  refine S.val hA (R.assign rfl) rfl ?_; clear hA a; intro a hA
  refine S.done ?_
  rw [show (i : Int) + 1 = ((i + 1 : Nat) : Int) by omega, show (m : Int) - 1 - (i : Int) - 1 = (m : Int) - 1 - ((i + 1 : Nat) : Int) by omega] at hA
  replace hA : St 28 [(0, _), (2, _), (3, _)] a := hA.sub ((.cons rfl (.cons rfl (.cons rfl .nil))))
  exact hNext ((i + 1, ((Z.set (o + i) (Z.getD (o + (m - 1 - i)) 0)).set (o + (m - 1 - i)) (Z.getD (o + i) 0)))) _ _ ((by show m - (i + 1) < m - i; omega)) ⟨hA.sub ((.cons rfl (.cons rfl (.cons rfl .nil)))), hM, (by simp only [List.length_set]; exact hZl), (by omega), (fun t => by rw [← rvIq_succ hZl hom (by omega) hZ t]; rfl)⟩
 ·
  refine Ends.exit rfl ?_
  replace hA : St 28 [] a := hA.sub (.nil)
  refine Ends.end0 Try.func73 Try.results73 hA ?_
  have he := rvIq_end hZl hom (by omega) hZ
  rw [he] at hM
  exact ⟨rfl, hM⟩
end Go.Proofs.Ytnikajkklocncaa
namespace Go.Proofs.Ytnikajkklocncaa
open Go.RowKit
section
variable {P : Program} {l : List (Nat × Value)} {w : World} {t e ty : TypeId} {x y z : Operand} {k k' : IntKind} {n n' : Int}
theorem R.sliceLHg {g o len cap lo hi : Nat} {j : TypeInfo} (ht : P.underlying t = some (.slice e)) (hj : P.info? e = some j) (h1 : j.size = 1) (hx : opv l x = some (.slice (some ⟨g, o, none⟩) len cap)) (hy : opv l y = some (.int k n)) (hz : opv l z = some (.int k' n')) (hn : n = (lo : Int)) (hn' : n' = (hi : Int)) (hc : lo ≤ hi) (hcc : hi ≤ cap) (hlt : lo < cap) :
    Run P l w (.slice t x (some y) (some z) none) ty (.slice (some ⟨g, o + lo, none⟩) (hi - lo) (cap - lo)) w := fun ev hev _ _ _ _ => by
  subst hn hn'
  have h1' : (Instr.slice t (.slice (some ⟨g, o, none⟩) len cap) (some (.int k (lo : Int))) (some (.int k' (hi : Int))) none).run P w = .ok (.slice (some ⟨g, o + lo, none⟩) (hi - lo) (cap - lo)) w := by
    simp only [Instr.slice, Sem.run_bind, run_underlying ht, Result.andThen_ok, Instr.sliceBounds, Instr.sliceBound, asIntOf, Sem.run_pure]
    simp [hc, hcc, hlt, run_sizeOf_of hj, h1, Addr.add]
    repeat' split
    all_goals first | rfl | omega | (simp_all; done)
  have h2 : (Instr.sliceAt t (.slice (some ⟨g, o, none⟩) len cap) (some (.int k (lo : Int))) (some (.int k' (hi : Int))) none).run P w = .ok (.slice (some ⟨g, o + lo, none⟩) (hi - lo) (cap - lo)) w := by
    unfold Instr.sliceAt
    simp only [Sem.run_bind, run_underlying ht, Result.andThen_ok]
    exact h1'
  simp [execOp, hev _ _ hx, hev _ _ hy, hev _ _ hz, h2]
theorem R.sliceLH {g len cap lo hi : Nat} {j : TypeInfo} (ht : P.underlying t = some (.slice e)) (hj : P.info? e = some j) (h1 : j.size = 1) (hx : opv l x = some (.slice (some ⟨g, 0, none⟩) len cap)) (hy : opv l y = some (.int k n)) (hz : opv l z = some (.int k' n')) (hn : n = (lo : Int)) (hn' : n' = (hi : Int)) (hc : lo ≤ hi) (hcc : hi ≤ cap) (hlt : lo < cap) :
    Run P l w (.slice t x (some y) (some z) none) ty (.slice (some ⟨g, lo, none⟩) (hi - lo) (cap - lo)) w := by
  have := R.sliceLHg (P := P) (w := w) (ty := ty) ht hj h1 hx hy hz hn hn' hc hcc hlt
  rwa [Nat.zero_add] at this
end
theorem Mem.ownRd {w0 w : World} {F : Nat → Prop} {L : List Ck} {e : TypeId} {a : Option Addr} {c : Nat} {X : List Int} (h : Mem w0 F (own e 1 (.slice a X.length c) X.length (X.map (Value.int .i64)) :: L) w) : Mem w0 F (Go.Proofs.Ytnikajkklocncaa.rd a c X :: L) w :=
  h.head (Mem.rsl (k := 0) h rfl) fun b ⟨_, p, hp, hb⟩ => by
    subst hp
    obtain ⟨a', cap', he, -, -, -, -, h2⟩ := h.ownForm (k := 0) rfl
    cases he
    obtain ⟨g, hg⟩ := h2 p rfl
    subst hg hb
    rfl
theorem Mem.rdFresh {w0 w : World} {L : List Ck} {k c : Nat} {a : Option Addr} {X : List Int} (hM : Mem w0 nof L w) (hk : ith L k = some (Go.Proofs.Ytnikajkklocncaa.rd a c X)) (hX : X ≠ []) : frs w0.heap.size a := fun p hp => by
  rw [ith_eq] at hk
  exact Nat.le_of_not_lt fun h => (hM.inb _ (List.mem_of_getElem? hk) p.block ⟨hX, p, hp, rfl⟩).2 h
theorem D.appendI2 {P : Program} {a : Act} {w w0 : World} {nn : Nat} {l : List (Nat × Value)} {Q : Exit → Act → World → Prop} {F : Nat → Prop} {L : List Ck} {S : World → Prop} {os : List Oper} {is : Ordt} {i last : Nat} {b0 : Bool} {d : Nat} {t e ty : TypeId} {x y : Operand} {pos : String} {aft : Array Edge}
    {k n bytes cap : Nat} {v z : Value} {xs : List Value} {X : List Int} {ad : Option Addr} {j : TypeInfo} (hA : St nn l a) (hM : Mem w0 F L w) (ho : ith os i = some { dst := some d, op := .call { callee := .builtin .append, args := #[x, y], argTypes := #[t, t] }, type := ty, pos, after := aft, guard := none })
    (hk : ith L k = some (own e 1 v n xs)) (hX : IntSl w (.slice ad X.length cap) X) (ht : P.underlying t = some (.slice e)) (hi : P.info? e = some j) (hz : j.zero = some z) (hsz : j.size = 1) (hby : j.bytes = bytes) (hzs : z.cells.size = 1)
    (hx : opv l x = some v) (hy : opv l y = some (.slice ad X.length cap)) (hmax : n + X.length ≤ maxLen) (hbs : (n + X.length) * bytes ≤ 140737488355328) (hd : Nat.blt d nn = true)
    (h : ∀ a' cap' w', Mem w0 F (setAt L k (own e 1 (.slice a' (n + X.length) cap') (n + X.length) (xs ++ X.map (Value.int .i64)))) w' → S w' ∧ ∀ a, St nn ((d, .slice a' (n + X.length) cap') :: l) a → wpOrd P last os Q S b0 is a w') : wpOrd P last os Q S b0 (.cons (i, false) is) a w := by
  obtain ⟨ad', cap', he, hle, hmx, hnn, hc⟩ := hX
  injection he with he1 he2 he3
  subst he1 he3
  cases ad with
  | none =>
    have h0 := hnn rfl
    subst h0
    have hX0 : X = [] := List.length_eq_zero_iff.1 (by omega)
    subst hX0
    have hr := run_append_owned_none (P := P) w 0 t ty e j 1 ht hi v n xs (hM.mem hk)
    obtain ⟨a', c', rfl, -⟩ := own_form (hM.mem hk)
    have e1 : setAt L k (own e 1 (.slice a' (n + ([] : List Int).length) c') (n + ([] : List Int).length) (xs ++ List.map (Value.int .i64) [])) = L := by
      rw [List.map_nil, List.append_nil]
      have : ∀ (l : List Ck) (i : Nat) (x : Ck), ith l i = some x → setAt l i x = l := by
        intro l
        induction l with
        | nil => intro i x _; rfl
        | cons y l ih =>
          intro i x hi
          cases i with
          | zero => simp only [ith, Option.some.injEq] at hi; subst hi; rfl
          | succ i => simp only [ith] at hi; simp only [setAt]; rw [ih i x hi]
      exact this L k _ hk
    obtain ⟨hS, h2⟩ := h a' c' w (by rw [e1]; exact hM)
    exact D.eff (v := .slice a' n c') (w' := w) hA ho (fun ev h _ _ _ _ => by simp only [List.length_nil] at hy; simp [execOp, resolve, invoke, builtin, h _ _ hx, h _ _ hy, hr]) hd hS h2
  | some p =>
    refine D.appendG hA hM ho hk ht hi hz hsz hby hzs (by decide) hx hy (by simp) (fun j u hu => ?_) (allOne_ints X) hmax hbs hd h
    obtain ⟨hj, rfl⟩ := mapi_take X j u hu
    obtain ⟨b, off, hb, hlt, hcell⟩ := hc (by intro e0; rw [e0] at hj; simp at hj)
    cases hb
    rw [Addr.add_lit]; exact hcell j hj
end Go.Proofs.Ytnikajkklocncaa
