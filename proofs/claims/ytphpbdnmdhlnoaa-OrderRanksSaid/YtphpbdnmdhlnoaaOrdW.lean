/-
  Package order: sorting; what an order is.
-/
import Derived.Test.YtphpbdnmdhlnoaaOrd2
import Derived.Test.YtphpbdnmdhlnoaaEngV
import Derived.Test.YtphpbdnmdhlnoaaTy
namespace Go.Proofs.Ytphpbdnmdhlnoaa
open Go.RowKit
theorem take_ne {X Y : List Int} {k : Nat} (h : X.getD k 0 ≠ Y.getD k 0) : X ≠ Y := fun e => h (by rw [e])
set_option maxRecDepth 100000 in
set_option maxHeartbeats 400000 in
theorem same09 (ax : Option Addr) (X : List Int) (cx : Nat) (ay : Option Addr) (Y : List Int) (cy : Nat) (hX : X.length ≤ 9223372036854775807) (w : World) (hx : IntSl w (.slice ax X.length cx) X) (hy : IntSl w (.slice ay Y.length cy) Y) :
    Calls Try.prog 12 #[.slice ax X.length cx, .slice ay Y.length cy] w fun e w' => e = .returned (.bool (decide (X = Y))) ∧ Below w.heap.size w w' := by
  have hbs := Below.refl (B := w.heap.size) w
  have hM := Mem.start w
  refine Calls.of_ends (vs := [.slice ax X.length cx, .slice ay Y.length cy]) Try.func12 rfl Try.ntmps12 rfl ?_
  intro a hA
  replace hA : St 26 [(0, _), (1, _)] a := hA
  refine Ends.seq ?_
  refine Ends.region ?_
  refine S.val hA (R.assign rfl) rfl ?_; clear hA a; intro a hA
  refine S.done ?_
  replace hA : St 26 [(0, _), (1, _)] a := hA.sub ((.cons rfl (.cons rfl .nil)))
  refine Ends.seq ?_
  refine Ends.seq ?_
  refine Ends.region ?_
  refine S.val hA (R.move rfl) rfl ?_; clear hA a; intro a hA
  refine S.val hA (R.lenS Try.underlying22 rfl rfl) rfl ?_; clear hA a; intro a hA
  refine S.val hA (R.move rfl) rfl ?_; clear hA a; intro a hA
  refine S.val hA (R.lenS Try.underlying22 rfl rfl) rfl ?_; clear hA a; intro a hA
  refine S.val hA (R.neq rfl rfl) rfl ?_; clear hA a; intro a hA
  refine S.done ?_
  replace hA : St 26 [(0, _), (1, _), (10, _)] a := hA.sub ((.cons rfl (.cons rfl (.cons rfl .nil))))
  refine Ends.ite hA rfl (fun hc1 => ?_) (fun hc1 => ?_)
  ·
    refine Ends.seq ?_
    refine Ends.region ?_
    refine S.val hA (R.assign rfl) rfl ?_; clear hA a; intro a hA
    refine S.done ?_
    replace hA : St 26 [(0, _), (1, _), (4, _)] a := hA.sub ((.cons rfl (.cons rfl (.cons rfl .nil))))
    refine Ends.ret1 Try.func12 Try.results12 hA rfl ?_
    exact ⟨by rw [decide_eq_false (fun e => by subst e; omega)], Mem.trans0 hbs hM.nilL⟩
  ·
    have hln : X.length = Y.length := by omega
    refine Ends.skip ?_
    refine Ends.seq ?_
    refine Ends.seq ?_
    refine Ends.region ?_
    refine S.val hA (R.assign rfl) rfl ?_; clear hA a; intro a hA
    refine S.done ?_
    replace hA : St 26 [(0, _), (1, _), (5, _)] a := hA.sub ((.cons rfl (.cons rfl (.cons rfl .nil))))
    refine Ends.block ?_
    refine Ends.loop (σ := Nat) (fun k (a : Act) (wv : World) => St 26 [(0, .slice ax X.length cx), (1, .slice ay Y.length cy), (5, .int .i64 ((k : Int)))] a ∧ Mem w nof [] wv ∧ (k ≤ X.length) ∧ (X.take k = Y.take k)) (fun k => X.length - k) 0 ⟨hA.sub ((.cons rfl (.cons rfl (.cons rfl .nil)))), hM, (Nat.zero_le _), rfl⟩ ?_
    clear hA hM a
    rintro k a w1 ⟨hA, hM, hk, hk2⟩ hNext
    refine Ends.seq ?_
    refine Ends.seq ?_
    refine Ends.region ?_
    refine S.val hA (R.move rfl) rfl ?_; clear hA a; intro a hA
    refine S.val hA (R.move rfl) rfl ?_; clear hA a; intro a hA
    refine S.val hA (R.lenS Try.underlying22 rfl rfl) rfl ?_; clear hA a; intro a hA
    refine S.val hA (R.lss rfl rfl) rfl ?_; clear hA a; intro a hA
    refine S.done ?_
    replace hA : St 26 [(0, _), (1, _), (5, _), (14, _)] a := hA.sub ((.cons rfl (.cons rfl (.cons rfl (.cons rfl .nil)))))
    refine Ends.ite hA rfl (fun hc2 => ?_) (fun hc2 => ?_)
    ·
      refine Ends.skip ?_
      refine Ends.seq ?_
      refine Ends.block ?_
      refine Ends.seq ?_
      refine Ends.drawn (Mem w nof []) (.cons (0, true) (.cons (1, true) (.cons (2, true) (.cons (3, true) (.cons (4, true) (.cons (5, true) (.cons (6, true) (.cons (7, true) (.cons (8, true) .nil))))))))) 9 mixed (by kernel_rfl) (by kernel_rfl) (by kernel_rfl) hM.drew ?_
      replace hM := hM.drew
      refine D.valF hA rfl (fun _ => R.move rfl) rfl ?_; clear hA a; intro a hA
      refine D.valF hA rfl (fun _ => R.move rfl) rfl ?_; clear hA a; intro a hA
      refine D.valF hA rfl (fun _ => R.idxI hx (j := k) sl22 rfl rfl (by omega) (rfl)) rfl ?_; clear hA a; intro a hA
      refine D.val hA rfl (by kernel_rfl) (fun _ hM => R.loadI (hx.mem hM) sz3 rfl (by omega)) rfl ?_; clear hA a; intro a hA
      refine D.valF hA rfl (fun _ => R.move rfl) rfl ?_; clear hA a; intro a hA
      refine D.valF hA rfl (fun _ => R.move rfl) rfl ?_; clear hA a; intro a hA
      refine D.valF hA rfl (fun _ => R.idxI hy (j := k) sl22 rfl rfl (by omega) (rfl)) rfl ?_; clear hA a; intro a hA
      refine D.val hA rfl (by kernel_rfl) (fun _ hM => R.loadI (hy.mem hM) sz3 rfl (by omega)) rfl ?_; clear hA a; intro a hA
      refine D.valF hA rfl (fun _ => R.neq rfl rfl) rfl ?_; clear hA a; intro a hA
      refine D.done ?_
      replace hA : St 26 [(0, _), (1, _), (5, _), (25, _)] a := hA.sub ((.cons rfl (.cons rfl (.cons rfl (.cons rfl .nil)))))
      refine Ends.ite hA rfl (fun hc3 => ?_) (fun hc3 => ?_)
      ·
        refine Ends.seq ?_
        refine Ends.region ?_
        refine S.val hA (R.assign rfl) rfl ?_; clear hA a; intro a hA
        refine S.done ?_
        replace hA : St 26 [(0, _), (1, _), (4, _), (5, _)] a := hA.sub ((.cons rfl (.cons rfl (.cons rfl (.cons rfl .nil)))))
        refine Ends.ret1 Try.func12 Try.results12 hA rfl ?_
        exact ⟨by rw [decide_eq_false (take_ne (k := k) (by omega))], Mem.trans0 hbs hM.nilL⟩
      ·
        refine Ends.skip ?_
        refine Ends.inBlock ?_
        refine Ends.region ?_
        refine S.val hA (R.move rfl) rfl ?_; clear hA a; intro a hA
        refine S.val hA (R.addI rfl rfl (r := ((k : Int)) + 1) rfl (by omega)) rfl ?_; clear hA a; intro a hA
        refine S.val hA (R.assign rfl) rfl ?_; clear hA a; intro a hA
        refine S.done ?_
        replace hA : St 26 [(0, _), (1, _), (5, _)] a := hA.sub ((.cons rfl (.cons rfl (.cons rfl .nil))))
        exact hNext ((k + 1)) _ _ ((by show X.length - (k + 1) < X.length - k; omega)) ⟨hA.sub ((.cons rfl (.cons rfl (.cons rfl .nil)))), hM, (by omega), (by rw [take_succ_getD X k (by omega), take_succ_getD Y k (by omega), hk2, show X.getD k 0 = Y.getD k 0 by omega])⟩
    ·
      refine Ends.exit rfl ?_
      replace hA : St 26 [] a := hA.sub (.nil)
      refine Ends.seq ?_
      refine Ends.region ?_
      refine S.val hA (R.assign rfl) rfl ?_; clear hA a; intro a hA
      refine S.done ?_
      replace hA : St 26 [(4, _)] a := hA.sub ((.cons rfl .nil))
      refine Ends.ret1 Try.func12 Try.results12 hA rfl ?_
      have hkl : k = X.length := by omega
      have hXY : X = Y := by rw [hkl, List.take_length, hln, List.take_length] at hk2; exact hk2
      exact ⟨by rw [decide_eq_true hXY], Mem.trans0 hbs hM.nilL⟩
set_option maxRecDepth 100000 in
set_option maxHeartbeats 400000 in
theorem cut09 (ax : Option Addr) (X : List Int) (cx : Nat) (n : Int) (hn : 0 ≤ n ∧ n ≤ 1000) (w : World) (hx : IntSl w (.slice ax X.length cx) X) :
    Calls Try.prog 8 #[.slice ax X.length cx, .int .i64 n] w fun e w' => ∃ Y a c, Y = X.take (min (X.length : Int) n).toNat ∧ (Y.length : Int) ≤ n ∧ e = .returned (.slice a Y.length c) ∧ IntSl w' (.slice a Y.length c) Y ∧ Below w.heap.size w w' := by
  have hbs := Below.refl (B := w.heap.size) w
  have hlX := hx.lenB
  have hM := Mem.start w
  refine Calls.of_ends (vs := [.slice ax X.length cx, .int .i64 n]) Try.func8 rfl Try.ntmps8 rfl ?_
  intro a hA
  replace hA : St 13 [(0, _), (1, _)] a := hA
  refine Ends.seq ?_
  refine Ends.region ?_
  refine S.val hA (R.assign rfl) rfl ?_; clear hA a; intro a hA
  refine S.done ?_
  replace hA : St 13 [(0, _), (1, _)] a := hA.sub ((.cons rfl (.cons rfl .nil)))
  refine Ends.seq ?_
  refine Ends.region ?_
  refine S.buildSl0 hA hM Try.underlying22 info3 rfl ?_; clear hA hM a; intro b1 w1 hb2 hM a hA
  replace hM := hM.ownPt (cap := 0) (n := 0) (sz := 1) (xs := []) rfl (Nat.zero_le _) (Nat.le_refl _) rfl
  replace hM : Mem _ _ [own 3 1 (.slice ((some ⟨b1, 0, none⟩)) 0 0) 0 ((([] : List Int)).map (Value.int .i64))] _ := hM
  refine S.val hA (R.move rfl) rfl ?_; clear hA a; intro a hA
  refine S.val hA (R.move rfl) rfl ?_; clear hA a; intro a hA
  refine S.val hA (R.lenS Try.underlying22 rfl rfl) rfl ?_; clear hA a; intro a hA
  refine S.val hA (R.move rfl) rfl ?_; clear hA a; intro a hA
  refine S.val hA (R.min rfl rfl) rfl ?_; clear hA a; intro a hA
  have hsl3 := hx.cutR ((min ((X.length : Int)) n).toNat) (by first | omega | (rw [List.length_take]; omega))
  refine S.val hA (R.sliceHI (h := (min ((X.length : Int)) n).toNat) hx Try.underlying22 info3 rfl rfl (by first | omega | (rw [List.length_take]; omega)) (by first | omega | (rw [List.length_take]; omega))) rfl ?_; clear hA a; intro a hA
  refine S.appendI (k := 0) hA hM rfl (hsl3.mem hM) Try.underlying22 info3 rfl rfl rfl rfl rfl rfl (by first | (rw [List.length_take]; unfold maxLen; omega) | (rw [List.length_take]; show (0 + _) * 8 ≤ _; omega)) (by first | (rw [List.length_take]; unfold maxLen; omega) | (rw [List.length_take]; show (0 + _) * 8 ≤ _; omega)) rfl ?_; clear hA hM a; intro a4 c5 w2 hM a hA
  have hl6 : 0 + ((X.take ((min ((X.length : Int)) n).toNat))).length = (((X.take ((min ((X.length : Int)) n).toNat)))).length := by first | (simp; done) | simp only [List.length_append]
  rw [hl6, show (([] : List Int)).map (Value.int .i64) ++ ((X.take ((min ((X.length : Int)) n).toNat))).map (Value.int .i64) = (((X.take ((min ((X.length : Int)) n).toNat)))).map (Value.int .i64) by simp] at hM; rw [hl6] at hA; clear hl6
  replace hM : Mem _ _ [own 3 1 (.slice a4 ((((X.take ((min ((X.length : Int)) n).toNat)))).length) c5) ((((X.take ((min ((X.length : Int)) n).toNat)))).length) ((((X.take ((min ((X.length : Int)) n).toNat)))).map (Value.int .i64))] _ := hM
  refine S.val hA (R.assign rfl) rfl ?_; clear hA a; intro a hA
  refine S.done ?_
  replace hA : St 13 [(4, _)] a := hA.sub ((.cons rfl .nil))
  refine Ends.ret1 Try.func8 Try.results8 hA rfl ?_
  have hr := hM.rsl (k := 0) rfl
  exact ⟨_, _, _, rfl, by rw [List.length_take]; omega, rfl, hr, Mem.trans0 hbs hM.nilL⟩
set_option maxRecDepth 100000 in
set_option maxHeartbeats 400000 in
theorem plain_own (n : Int) (hn : 0 ≤ n ∧ n ≤ 1000) (w : World) :
    Calls Try.prog 27 #[.int .i64 n] w fun e w' => ∃ g c, e = .returned (.slice (some ⟨g, 0, none⟩) (pl n.toNat).length c) ∧ Mem w nof [own 3 1 (.slice ((some ⟨g, 0, none⟩)) (((pl n.toNat)).length) c) (((pl n.toNat)).length) (((pl n.toNat)).map (Value.int .i64))] w' := by
  have hbs := Below.refl (B := w.heap.size) w
  have hM := Mem.start w
  refine Calls.of_ends (vs := [.int .i64 n]) Try.func27 rfl Try.ntmps27 rfl ?_
  intro a hA
  replace hA : St 18 [(0, _)] a := hA
  refine Ends.seq ?_
  refine Ends.region ?_
  refine S.val hA (R.assign rfl) rfl ?_; clear hA a; intro a hA
  refine S.done ?_
  replace hA : St 18 [(0, _)] a := hA.sub ((.cons rfl .nil))
  refine Ends.seq ?_
  refine Ends.region ?_
  refine S.val hA (R.move rfl) rfl ?_; clear hA a; intro a hA
  refine S.make hA hM Try.underlying22 info3 rfl rfl rfl (by first | omega | (rw [hpl]; omega)) (by show (8 : Int) * _ ≤ _; omega) (by first | omega | (rw [hpl]; omega)) rfl ?_; clear hA hM a; intro b1 w1 hb2 hM a hA
  replace hM : Mem _ _ [pt b1 (madeCells #[.int .i64 0] (n.toNat * 1)) 3] _ := hM
  rw [Nat.mul_one, made_ints] at hM
  replace hM : Mem _ _ [pt b1 ((ints (List.replicate n.toNat 0))) 3] _ := hM
  refine S.val hA (R.assign rfl) rfl ?_; clear hA a; intro a hA
  refine S.done ?_
  replace hA : St 18 [(3, _)] a := hA.sub ((.cons rfl .nil))
  refine Ends.seq ?_
  refine Ends.seq ?_
  refine Ends.region ?_
  refine S.val hA (R.move rfl) rfl ?_; clear hA a; intro a hA
  refine S.val hA (R.lenS Try.underlying22 rfl rfl) rfl ?_; clear hA a; intro a hA
  refine S.val hA (R.move rfl) rfl ?_; clear hA a; intro a hA
  refine S.done ?_
  replace hA : St 18 [(3, _), (8, _), (9, _)] a := hA.sub ((.cons rfl (.cons rfl (.cons rfl .nil))))
  refine Ends.block ?_
  rw [show List.replicate n.toNat 0 = (pl 0 ++ List.replicate (n.toNat - 0) 0) from rfl] at hM
  refine Ends.loop (σ := Nat) (fun k (a : Act) (wv : World) => St 18 [(3, .slice (some ⟨b1, 0, none⟩) n.toNat n.toNat), (8, .int .i64 ((n.toNat : Int))), (9, .int .i64 ((k : Int)))] a ∧ Mem w nof [pt b1 ((ints (pl k ++ List.replicate (n.toNat - k) 0))) 3] wv ∧ (k ≤ n.toNat)) (fun k => n.toNat - k) 0 ⟨hA.sub ((.cons rfl (.cons rfl (.cons rfl .nil)))), hM, (Nat.zero_le _)⟩ ?_
  clear hA hM a
  rintro k a w2 ⟨hA, hM, hk⟩ hNext
  refine Ends.seq ?_
  refine Ends.region ?_
  refine S.val hA (R.lss rfl rfl) rfl ?_; clear hA a; intro a hA
  refine S.done ?_
  replace hA : St 18 [(3, _), (8, _), (9, _), (10, _)] a := hA.sub ((.cons rfl (.cons rfl (.cons rfl (.cons rfl .nil)))))
  refine Ends.seq ?_
  refine Ends.ite hA rfl (fun hc3 => ?_) (fun hc3 => ?_)
  ·
    have hpl : (pl k ++ List.replicate (n.toNat - k) 0).length = n.toNat := by rw [List.length_append, pl_len, List.length_replicate]; omega
    refine Ends.skip ?_
    refine Ends.seq ?_
    refine Ends.block ?_
    refine Ends.seq ?_
    refine Ends.region ?_
    refine S.val hA (R.move rfl) rfl ?_; clear hA a; intro a hA
    refine S.val hA (R.assign rfl) rfl ?_; clear hA a; intro a hA
    refine S.done ?_
    replace hA : St 18 [(3, _), (4, _), (8, _), (9, _)] a := hA.sub ((.cons rfl (.cons rfl (.cons rfl (.cons rfl .nil)))))
    refine Ends.region ?_
    refine S.val hA (R.move rfl) rfl ?_; clear hA a; intro a hA
    refine S.val hA (R.move rfl) rfl ?_; clear hA a; intro a hA
    refine S.val hA (R.move rfl) rfl ?_; clear hA a; intro a hA
    refine S.val hA (R.indexAddr (q := k) sl22 rfl rfl (by first | omega | (rw [hpl]; omega)) (by first | omega | (rw [hpl]; omega))) rfl ?_; clear hA a; intro a hA
    refine S.store (k := 0) hA hM sz3 rfl rfl rfl rfl (ints_getD ((pl k ++ List.replicate (n.toNat - k) 0)) _ (by first | omega | (rw [hpl]; omega))) ?_; clear hM
    intro w3 hM
    rw [ints_set] at hM
    replace hM : Mem _ _ [pt b1 ((ints (((pl k ++ List.replicate (n.toNat - k) 0)).set k ((k : Int))))) 3] _ := hM
    refine S.done ?_
    rw [pl_set _ _ (by omega)] at hM
    replace hA : St 18 [(3, _), (8, _), (9, _)] a := hA.sub ((.cons rfl (.cons rfl (.cons rfl .nil))))
    refine Ends.inBlock ?_
    refine Ends.region ?_
    refine S.val hA (R.addI rfl rfl (r := ((k : Int)) + 1) rfl (by first | omega | (rw [hpl]; omega))) rfl ?_; clear hA a; intro a hA
    refine S.val hA (R.move rfl) rfl ?_; clear hA a; intro a hA
    refine S.done ?_
    replace hA : St 18 [(3, _), (8, _), (9, _)] a := hA.sub ((.cons rfl (.cons rfl (.cons rfl .nil))))
    exact hNext ((k + 1)) _ _ ((by show n.toNat - (k + 1) < n.toNat - k; omega)) ⟨hA.sub ((.cons rfl (.cons rfl (.cons rfl .nil)))), hM, (by omega)⟩
  ·
    obtain rfl : k = n.toNat := by omega
    rw [Nat.sub_self, List.replicate_zero, List.append_nil] at hM
    refine Ends.exit rfl ?_
    replace hA : St 18 [(3, _)] a := hA.sub ((.cons rfl .nil))
    refine Ends.seq ?_
    refine Ends.region ?_
    refine S.val hA (R.move rfl) rfl ?_; clear hA a; intro a hA
    refine S.val hA (R.assign rfl) rfl ?_; clear hA a; intro a hA
    refine S.done ?_
    replace hA : St 18 [(2, _)] a := hA.sub ((.cons rfl .nil))
    refine Ends.ret1 Try.func27 Try.results27 hA rfl ?_
    replace hM := hM.ptOwn (n := n.toNat) (pl_len _) (by omega)
    have hl := pl_len n.toNat
    exact ⟨_, _, by rw [pl_len], hM⟩
theorem plain_rs (n : Int) (hn : 0 ≤ n ∧ n ≤ 1000) (w : World) : Calls Try.prog 27 #[.int .i64 n] w fun e w' => ∃ a c, e = .returned (.slice a (pl n.toNat).length c) ∧ IntSl w' (.slice a (pl n.toNat).length c) (pl n.toNat) ∧ Below w.heap.size w w' :=
  (plain_own n hn w).mono fun e w' ⟨g, c, he, hM⟩ => ⟨_, c, he, rs_of hM⟩
/-- A function value tells what stands ahead. -/
def AheadAt (A : Int → Prop) (lt : Int → Int → Bool) (cf : FuncId) (cs : Array Value) (w : World) : Prop :=
  ∀ w', Below w.heap.size w w' → ∀ x y, A x → A y → Calls Try.prog cf (#[.int .i64 x, .int .i64 y] ++ cs) w' fun e w2 => e = .returned (.bool (lt x y)) ∧ Below w'.heap.size w' w2
theorem AheadAt.mem {A : Int → Prop} {lt : Int → Int → Bool} {cf : FuncId} {cs : Array Value} {w0 w : World} {L : List Ck} (h : AheadAt A lt cf cs w0) (hM : Mem w0 nof L w) : AheadAt A lt cf cs w :=
  fun w' hb x y hx hy => h w' (Mem.trans0 hM.nilL.below (Mem.of_below hb)) x y hx hy
def MergeAt (A : Int → Prop) (lt : Int → Int → Bool) (cf : FuncId) (cs : Array Value) (f : Nat) : Prop :=
  ∀ (ax : Option Addr) (X : List Int) (cx : Nat) (w : World), X.length ≤ f → X.length ≤ 1000 → (∀ x ∈ X, A x) → IntSl w (.slice ax X.length cx) X → AheadAt A lt cf cs w →
    Calls Try.prog 26 #[.slice ax X.length cx, .func (.func cf) #[] cs] w fun e w' => ∃ a c, e = .returned (.slice a (msort lt f X).length c) ∧ IntSl w' (.slice a (msort lt f X).length c) (msort lt f X) ∧ Below w.heap.size w w'
theorem mrg_stepR {lt : Int → Int → Bool} {X Y : List Int} (hx : 0 < X.length) (hy : 0 < Y.length) (h : lt (Y.getD 0 0) (X.getD 0 0) = true) : mrg lt X Y = Y.getD 0 0 :: mrg lt X (Y.drop 1) := by
  match X, Y, hx, hy with
  | a :: X, b :: Y, _, _ =>
    have h' : lt b a = true := h
    rw [mrg, if_pos h']; rfl
theorem mrg_stepL {lt : Int → Int → Bool} {X Y : List Int} (hx : 0 < X.length) (hy : 0 < Y.length) (h : lt (Y.getD 0 0) (X.getD 0 0) = false) : mrg lt X Y = X.getD 0 0 :: mrg lt (X.drop 1) Y := by
  match X, Y, hx, hy with
  | a :: X, b :: Y, _, _ =>
    have h' : lt b a = false := h
    rw [mrg, if_neg (by rw [h']; simp)]; rfl
theorem mrg_end {lt : Int → Int → Bool} {X Y : List Int} (h : ¬ (0 < X.length ∧ 0 < Y.length)) : mrg lt X Y = X ++ Y := by
  rcases Nat.eq_zero_or_pos X.length with e | e
  · rw [List.length_eq_zero_iff.1 e, nil_mrg]; rfl
  · have : Y.length = 0 := by omega
    rw [List.length_eq_zero_iff.1 this, mrg_nil, List.append_nil]
theorem getD_mem0 {l : List Int} (h : 0 < l.length) : l.getD 0 0 ∈ l := getD_mem h
set_option maxRecDepth 100000 in
set_option maxHeartbeats 400000 in
theorem merge_short (cf : FuncId) (cs : Array Value) (ax : Option Addr) (X : List Int) (cx : Nat) (hX2 : X.length < 2) (w : World) (hx : IntSl w (.slice ax X.length cx) X) :
    Calls Try.prog 26 #[.slice ax X.length cx, .func (.func cf) #[] cs] w fun e w' => ∃ a c, e = .returned (.slice a X.length c) ∧ IntSl w' (.slice a X.length c) X ∧ Below w.heap.size w w' := by
  have hbs := Below.refl (B := w.heap.size) w
  have hM := Mem.start w
  refine Calls.of_ends (vs := [.slice ax X.length cx, .func (.func cf) #[] cs]) Try.func26 rfl Try.ntmps26 rfl ?_
  intro a hA
  replace hA : St 66 [(0, _), (1, _)] a := hA
  refine Ends.seq ?_
  refine Ends.region ?_
  refine S.val hA (R.assign rfl) rfl ?_; clear hA a; intro a hA
  refine S.done ?_
  replace hA : St 66 [(0, _), (1, _)] a := hA.sub ((.cons rfl (.cons rfl .nil)))
  refine Ends.seq ?_
  refine Ends.seq ?_
  refine Ends.region ?_
  refine S.val hA (R.move rfl) rfl ?_; clear hA a; intro a hA
  refine S.val hA (R.lenS Try.underlying22 rfl rfl) rfl ?_; clear hA a; intro a hA
  refine S.val hA (R.tt (R.lss rfl rfl) (by omega)) rfl ?_; clear hA a; intro a hA
  refine S.done ?_
  replace hA : St 66 [(0, _), (1, _), (11, _)] a := hA.sub ((.cons rfl (.cons rfl (.cons rfl .nil))))
  refine Ends.condT hA rfl ?_
  refine Ends.seq ?_
  refine Ends.region ?_
  refine S.val hA (R.move rfl) rfl ?_; clear hA a; intro a hA
  refine S.val hA (R.assign rfl) rfl ?_; clear hA a; intro a hA
  refine S.done ?_
  replace hA : St 66 [(0, _), (1, _), (4, _)] a := hA.sub ((.cons rfl (.cons rfl (.cons rfl .nil))))
  refine Ends.ret1 Try.func26 Try.results26 hA rfl ?_
  exact ⟨_, _, rfl, hx, Mem.trans0 hbs hM.nilL⟩
set_option maxRecDepth 100000 in
set_option maxHeartbeats 400000 in
theorem merge_step {lt : Int → Int → Bool} {A : Int → Prop} {cf : FuncId} {cs : Array Value} {fn : Func} (hcf : Try.prog.funcs[cf]? = some fn) (hcn : (fn.name == "runtime.NumGoroutine") = false) (hcb : fn.body.isNone = false) (f : Nat) (ih : MergeAt A lt cf cs f) (ax : Option Addr) (X : List Int) (cx : Nat) (hXf : X.length ≤ f + 1) (hXm : X.length ≤ 1000) (hAX : ∀ x ∈ X, A x) (w : World) (hx : IntSl w (.slice ax X.length cx) X) (hah : AheadAt A lt cf cs w) :
    Calls Try.prog 26 #[.slice ax X.length cx, .func (.func cf) #[] cs] w fun e w' => ∃ a c, e = .returned (.slice a (msort lt (f + 1) X).length c) ∧ IntSl w' (.slice a (msort lt (f + 1) X).length c) (msort lt (f + 1) X) ∧ Below w.heap.size w w' := by
  have hbs := Below.refl (B := w.heap.size) w
  have hM := Mem.start w
  refine Calls.of_ends (vs := [.slice ax X.length cx, .func (.func cf) #[] cs]) Try.func26 rfl Try.ntmps26 rfl ?_
  intro a hA
  replace hA : St 66 [(0, _), (1, _)] a := hA
  refine Ends.seq ?_
  refine Ends.region ?_
  refine S.val hA (R.assign rfl) rfl ?_; clear hA a; intro a hA
  refine S.done ?_
  replace hA : St 66 [(0, _), (1, _)] a := hA.sub ((.cons rfl (.cons rfl .nil)))
  refine Ends.seq ?_
  refine Ends.seq ?_
  refine Ends.region ?_
  refine S.val hA (R.move rfl) rfl ?_; clear hA a; intro a hA
  refine S.val hA (R.lenS Try.underlying22 rfl rfl) rfl ?_; clear hA a; intro a hA
  refine S.val hA (R.lss rfl rfl) rfl ?_; clear hA a; intro a hA
  refine S.done ?_
  replace hA : St 66 [(0, _), (1, _), (11, _)] a := hA.sub ((.cons rfl (.cons rfl (.cons rfl .nil))))
  refine Ends.ite hA rfl (fun hc1 => ?_) (fun hc1 => ?_)
  ·
    refine Ends.seq ?_
    refine Ends.region ?_
    refine S.val hA (R.move rfl) rfl ?_; clear hA a; intro a hA
    refine S.val hA (R.assign rfl) rfl ?_; clear hA a; intro a hA
    refine S.done ?_
    replace hA : St 66 [(0, _), (1, _), (4, _)] a := hA.sub ((.cons rfl (.cons rfl (.cons rfl .nil))))
    refine Ends.ret1 Try.func26 Try.results26 hA rfl ?_
    rw [show msort lt (f + 1) X = X by rw [msort, if_pos (by omega)]]
    exact ⟨_, _, rfl, hx, Mem.trans0 hbs hM.nilL⟩
  ·
    refine Ends.skip ?_
    refine Ends.seq ?_
    refine Ends.region ?_
    refine S.val hA (R.move rfl) rfl ?_; clear hA a; intro a hA
    refine S.val hA (R.lenS Try.underlying22 rfl rfl) rfl ?_; clear hA a; intro a hA
    refine S.val hA (R.quoI rfl rfl rfl (by omega)) rfl ?_; clear hA a; intro a hA
    refine S.val hA (R.assign rfl) rfl ?_; clear hA a; intro a hA
    refine S.done ?_
    replace hA : St 66 [(0, _), (1, _), (5, _)] a := hA.sub ((.cons rfl (.cons rfl (.cons rfl .nil))))
    refine Ends.seq ?_
    refine Ends.drawn (fun _ => True) (.cons (0, true) (.cons (1, true) (.cons (2, true) (.cons (3, true) (.cons (5, true) (.cons (6, true) (.cons (7, true) (.cons (8, true) (.cons (4, false) (.cons (9, false) (.cons (10, true) (.cons (11, true) .nil)))))))))))) 12 mixed (by kernel_rfl) (by kernel_rfl) (by kernel_rfl) trivial ?_
    replace hM := hM.drew
    refine D.valF hA rfl (fun _ => R.move rfl) rfl ?_; clear hA a; intro a hA
    refine D.valF hA rfl (fun _ => R.move rfl) rfl ?_; clear hA a; intro a hA
    have hsl2 := hx.cutR ((X.length / 2)) (by omega)
    refine D.valF hA rfl (fun _ => R.sliceHI (h := (X.length / 2)) hx Try.underlying22 info3 rfl rfl (by omega) (by omega)) rfl ?_; clear hA a; intro a hA
    refine D.valF hA rfl (fun _ => R.move rfl) rfl ?_; clear hA a; intro a hA
    refine D.valF hA rfl (fun _ => R.move rfl) rfl ?_; clear hA a; intro a hA
    refine D.valF hA rfl (fun _ => R.move rfl) rfl ?_; clear hA a; intro a hA
    obtain ⟨as4, cs5, hsl3, hr6⟩ := hx.fromR ((X.length / 2)) (by omega) (by omega)
    refine D.valF hA rfl (fun _ => (hr6 _ _ _ _ _ _ _ _ _ _ _ Try.underlying22 info3 rfl rfl rfl (by omega))) rfl ?_; clear hA a; intro a hA
    refine D.valF hA rfl (fun _ => R.move rfl) rfl ?_; clear hA a; intro a hA
    refine D.call hA rfl (R.callF Try.func26 rfl rfl rfl) rfl (ih ax ((X.take ((X.length / 2)))) cx _ (by rw [List.length_take]; omega) (by rw [List.length_take]; omega) (fun x hx => hAX x (List.mem_of_mem_take hx)) (hsl2.mem hM) (hah.mem hM)) ?_; clear hA a
    rintro e w1 ⟨ra7, rc8, rfl, rh9, hb⟩
    replace hM := hM.callB hb; clear hb
    have hbs := hbs.trans (hM.below.mono hbs.size)
    have hx := hx.mem hM
    have hah := hah.mem hM
    have hsl2 := hsl2.mem hM
    have hsl3 := hsl3.mem hM
    replace hM := Mem.start w1
    refine ⟨.slice ra7 (((msort lt f ((X.take ((X.length / 2)))))).length) rc8, rfl, trivial, fun a hA => ?_⟩
    refine D.call hA rfl (R.callF Try.func26 rfl rfl rfl) rfl (ih as4 ((X.drop ((X.length / 2)))) cs5 _ (by rw [List.length_drop]; omega) (by rw [List.length_drop]; omega) (fun x hx => hAX x (List.mem_of_mem_drop hx)) (hsl3.mem hM) (hah.mem hM)) ?_; clear hA a
    rintro e w2 ⟨ra10, rc11, rfl, rh12, hb⟩
    replace hM := hM.callB hb; clear hb
    have hbs := hbs.trans (hM.below.mono hbs.size)
    have hx := hx.mem hM
    have hah := hah.mem hM
    have hsl2 := hsl2.mem hM
    have hsl3 := hsl3.mem hM
    have rh9 := rh9.mem hM
    replace hM := Mem.start w2
    refine ⟨.slice ra10 (((msort lt f ((X.drop ((X.length / 2)))))).length) rc11, rfl, trivial, fun a hA => ?_⟩
    refine D.valF hA rfl (fun _ => R.assign rfl) rfl ?_; clear hA a; intro a hA
    refine D.valF hA rfl (fun _ => R.assign rfl) rfl ?_; clear hA a; intro a hA
    refine D.done ?_
    replace hA : St 66 [(0, _), (1, _), (6, _), (7, _)] a := hA.sub ((.cons rfl (.cons rfl (.cons rfl (.cons rfl .nil)))))
    refine Ends.seq ?_
    refine Ends.region ?_
    refine S.val hA (R.move rfl) rfl ?_; clear hA a; intro a hA
    refine S.val hA (R.lenS Try.underlying22 rfl rfl) rfl ?_; clear hA a; intro a hA
    refine S.makeC hA hM Try.underlying22 info3 rfl rfl rfl (by omega) (by show (8 : Int) * _ ≤ _; omega) (by omega) rfl ?_; clear hA hM a; intro b13 w3 hb14 hM a hA
    replace hM : Mem _ _ [pt b13 ((madeCells #[.int .i64 0] (X.length * 1))) 3] _ := hM
    refine S.val hA (R.assign rfl) rfl ?_; clear hA a; intro a hA
    refine S.done ?_
    replace hA : St 66 [(1, _), (6, _), (7, _), (8, _)] a := hA.sub ((.cons rfl (.cons rfl (.cons rfl (.cons rfl .nil)))))
    refine Ends.seq ?_
    refine Ends.block ?_
    replace hM := hM.ownPt (cap := X.length) (n := 0) (sz := 1) (xs := []) (by simp [madeCells]) (by unfold maxLen; omega) (Nat.zero_le _) rfl
    replace hM : Mem _ _ [own 3 1 (.slice ((some ⟨b13, 0, none⟩)) ((([] : List Int)).length) X.length) ((([] : List Int)).length) ((([] : List Int)).map (Value.int .i64))] _ := hM
    refine Ends.loop (σ := Option Addr × List Int × Nat × Option Addr × List Int × Nat × Option Addr × List Int × Nat) (fun (la, U, lc, ra, V, rc, oa, Z, oc) (a : Act) (wv : World) => St 66 [(1, .func (.func cf) #[] cs), (6, .slice la U.length lc), (7, .slice ra V.length rc), (8, .slice oa Z.length oc)] a ∧ Mem w2 nof [own 3 1 (.slice oa Z.length oc) Z.length (Z.map (Value.int .i64))] wv ∧ (IntSl w2 (.slice la U.length lc) U) ∧ (IntSl w2 (.slice ra V.length rc) V) ∧ (Z ++ mrg lt U V = mrg lt ((msort lt f ((X.take ((X.length / 2)))))) ((msort lt f ((X.drop ((X.length / 2))))))) ∧ (U.length + V.length + Z.length = X.length) ∧ (∀ x ∈ U, A x) ∧ (∀ x ∈ V, A x)) (fun (la, U, lc, ra, V, rc, oa, Z, oc) => U.length + V.length) ((ra7, (msort lt f ((X.take ((X.length / 2))))), rc8, ra10, (msort lt f ((X.drop ((X.length / 2))))), rc11, (some ⟨b13, 0, none⟩), [], X.length)) ⟨hA.sub ((.cons rfl (.cons rfl (.cons rfl (.cons rfl .nil))))), hM, rh9, rh12, rfl, (by rw [msort_len, msort_len, List.length_take, List.length_drop]; simp only [List.length_nil]; omega), (fun x hx => hAX x (List.mem_of_mem_take ((msort_perm f _).mem_iff.1 hx))), (fun x hx => hAX x (List.mem_of_mem_drop ((msort_perm f _).mem_iff.1 hx)))⟩ ?_
    clear hA hM a
    rintro ⟨la, U, lc, ra, V, rc, oa, Z, oc⟩ a w4 ⟨hA, hM, hU, hV, hord, hlen, hAL, hAR⟩ hNext
    refine Ends.seq ?_
    refine Ends.seq ?_
    refine Ends.cut (fun (a : Act) (wv : World) => St 66 [(1, .func (.func cf) #[] cs), (6, .slice la U.length lc), (7, .slice ra V.length rc), (8, .slice oa Z.length oc), (36, .bool (decide ((0 < ((U.length : Int)) ∧ 0 < ((V.length : Int))))))] a ∧ Mem w2 nof [own 3 1 (.slice oa Z.length oc) Z.length (Z.map (Value.int .i64))] wv) ?_ (fun k2 hJ => ?_)
    · clear hA hM a; rintro a w5 ⟨hA, hM⟩
      refine Ends.ite hA rfl (fun hc15 => ?_) (fun hc15 => ?_)
      ·
        refine Ends.skip ?_
        refine Ends.block ?_
        refine Ends.seq ?_
        refine Ends.drawn (Mem w2 nof [own 3 1 (.slice oa Z.length oc) Z.length (Z.map (Value.int .i64))]) (.cons (0, true) (.cons (1, true) (.cons (2, true) (.cons (3, true) (.cons (4, true) (.cons (5, true) (.cons (6, true) (.cons (7, false) .nil)))))))) 8 mixed (by kernel_rfl) (by kernel_rfl) (by kernel_rfl) hM.drew ?_
        replace hM := hM.drew
        refine D.valF hA rfl (fun _ => R.move rfl) rfl ?_; clear hA a; intro a hA
        refine D.valF hA rfl (fun _ => R.move rfl) rfl ?_; clear hA a; intro a hA
        refine D.valF hA rfl (fun _ => R.idxI hV (j := 0) sl22 rfl rfl (by omega) (rfl)) rfl ?_; clear hA a; intro a hA
        refine D.val hA rfl (by kernel_rfl) (fun _ hM => R.loadI (hV.mem hM) sz3 rfl (by omega)) rfl ?_; clear hA a; intro a hA
        refine D.valF hA rfl (fun _ => R.move rfl) rfl ?_; clear hA a; intro a hA
        refine D.valF hA rfl (fun _ => R.idxI hU (j := 0) sl22 rfl rfl (by omega) (rfl)) rfl ?_; clear hA a; intro a hA
        refine D.val hA rfl (by kernel_rfl) (fun _ hM => R.loadI (hU.mem hM) sz3 rfl (by omega)) rfl ?_; clear hA a; intro a hA
        refine D.call hA rfl (R.callV hcf hcn hcb rfl rfl) rfl (hah _ hM.nilL.below (V.getD 0 0) (U.getD 0 0) (hAR _ (getD_mem0 (by omega))) (hAL _ (getD_mem0 (by omega)))) ?_; clear hA a
        rintro e w6 ⟨rfl, hb⟩
        replace hM := hM.callB hb; clear hb
        refine ⟨.bool (lt (V.getD 0 0) (U.getD 0 0)), rfl, hM, fun a hA => ?_⟩
        refine D.done ?_
        replace hA : St 66 [(1, _), (6, _), (7, _), (8, _), (44, _)] a := hA.sub ((.cons rfl (.cons rfl (.cons rfl (.cons rfl (.cons rfl .nil))))))
        refine Ends.iteB hA rfl (fun hc16 => ?_) (fun hc16 => ?_)
        ·
          refine Ends.drawn (Mem w2 nof []) (.cons (0, true) (.cons (1, true) (.cons (2, true) (.cons (3, true) (.cons (6, true) (.cons (7, true) (.cons (4, false) (.cons (5, false) (.cons (8, true) (.cons (9, true) .nil)))))))))) 10 mixed (by kernel_rfl) (by kernel_rfl) (by kernel_rfl) (hM.drop 0).drew ?_
          replace hM := hM.drew
          refine D.valF hA rfl (fun _ => R.move rfl) rfl ?_; clear hA a; intro a hA
          refine D.valF hA rfl (fun _ => R.move rfl) rfl ?_; clear hA a; intro a hA
          refine D.valF hA rfl (fun _ => R.idxI hV (j := 0) sl22 rfl rfl (by omega) (rfl)) rfl ?_; clear hA a; intro a hA
          refine D.val hA rfl (by kernel_rfl) (fun _ hM => R.loadI (hV.mem hM) sz3 rfl (by omega)) rfl ?_; clear hA a; intro a hA
          refine D.valF hA rfl (fun _ => R.move rfl) rfl ?_; clear hA a; intro a hA
          obtain ⟨as18, cs19, hsl17, hr20⟩ := hV.fromR 1 (by omega) (by omega)
          refine D.valF hA rfl (fun _ => (hr20 _ _ _ _ _ _ _ _ _ _ _ Try.underlying22 info3 rfl rfl rfl (by omega))) rfl ?_; clear hA a; intro a hA
          refine D.buildSl (cells := #[.int .i64 (V.getD 0 0)]) hA hM rfl Try.underlying22 info3 rfl rfl rfl rfl (by kernel_rfl) rfl ?_; clear hA hM a; intro b21 w7 hb22 hM; refine ⟨(fun hM => (hM.drop 0)) hM.tail, fun a hA => ?_⟩
          replace hM : Mem _ _ [pt b21 #[.int .i64 (V.getD 0 0)] 3, own 3 1 (.slice oa Z.length oc) Z.length (Z.map (Value.int .i64))] _ := hM
          refine D.append (k := 1) (k2 := 0) hA hM rfl rfl rfl Try.underlying22 info3 rfl rfl rfl rfl rfl rfl rfl rfl rfl (by first | (unfold maxLen; omega) | (rw [List.length_append]; unfold maxLen; omega) | (show (_ + _) * 8 ≤ (140737488355328 : Nat); omega) | (rw [List.length_append]; show (_ + _) * 8 ≤ (140737488355328 : Nat); omega)) (by first | (unfold maxLen; omega) | (rw [List.length_append]; unfold maxLen; omega) | (show (_ + _) * 8 ≤ (140737488355328 : Nat); omega) | (rw [List.length_append]; show (_ + _) * 8 ≤ (140737488355328 : Nat); omega)) rfl ?_; clear hA hM a; intro a23 c24 w8 hM
          replace hM : Mem _ _ [pt b21 #[.int .i64 (V.getD 0 0)] 3, own 3 1 (.slice a23 (Z.length + 1) c24) (Z.length + 1) (Z.map (Value.int .i64) ++ [.int .i64 (V.getD 0 0)])] _ := hM
          have hl25 : Z.length + 1 = (Z ++ [V.getD 0 0]).length := by simp
          rw [hl25, show Z.map (Value.int .i64) ++ [.int .i64 (V.getD 0 0)] = (Z ++ [V.getD 0 0]).map (Value.int .i64) by simp] at hM
          replace hM := hM.drop 0
          replace hM : Mem _ _ [own 3 1 (.slice a23 (((Z ++ [V.getD 0 0])).length) c24) (((Z ++ [V.getD 0 0])).length) (((Z ++ [V.getD 0 0])).map (Value.int .i64))] _ := hM
          refine ⟨(hM.drop 0), fun a hA => ?_⟩; rw [hl25] at hA; clear hl25
          refine D.valF hA rfl (fun _ => R.assign rfl) rfl ?_; clear hA a; intro a hA
          refine D.valF hA rfl (fun _ => R.assign rfl) rfl ?_; clear hA a; intro a hA
          refine D.done ?_
          replace hA : St 66 [(1, _), (6, _), (7, _), (8, _)] a := hA.sub ((.cons rfl (.cons rfl (.cons rfl (.cons rfl .nil)))))
          refine Ends.inBlock ?_
          replace hM := hM.firstN 1
          skip
          exact hNext ((la, U, lc, as18, (V.drop 1), cs19, a23, (Z ++ [V.getD 0 0]), c24)) _ _ ((by show _ < _; simp only [List.length_drop]; omega)) ⟨hA.sub ((.cons rfl (.cons rfl (.cons rfl (.cons rfl .nil))))), hM, hU, hsl17, (by rw [← hord, mrg_stepR (by omega) (by omega) hc16]; simp), (by simp only [List.length_drop, List.length_append, List.length_cons, List.length_nil]; omega), hAL, (fun x hx => hAR x (List.mem_of_mem_drop hx))⟩
        ·
          refine Ends.drawn (Mem w2 nof []) (.cons (0, true) (.cons (1, true) (.cons (2, true) (.cons (3, true) (.cons (6, true) (.cons (7, true) (.cons (4, false) (.cons (5, false) (.cons (8, true) (.cons (9, true) .nil)))))))))) 10 mixed (by kernel_rfl) (by kernel_rfl) (by kernel_rfl) (hM.drop 0).drew ?_
          replace hM := hM.drew
          refine D.valF hA rfl (fun _ => R.move rfl) rfl ?_; clear hA a; intro a hA
          refine D.valF hA rfl (fun _ => R.move rfl) rfl ?_; clear hA a; intro a hA
          refine D.valF hA rfl (fun _ => R.idxI hU (j := 0) sl22 rfl rfl (by omega) (rfl)) rfl ?_; clear hA a; intro a hA
          refine D.val hA rfl (by kernel_rfl) (fun _ hM => R.loadI (hU.mem hM) sz3 rfl (by omega)) rfl ?_; clear hA a; intro a hA
          refine D.valF hA rfl (fun _ => R.move rfl) rfl ?_; clear hA a; intro a hA
          obtain ⟨as27, cs28, hsl26, hr29⟩ := hU.fromR 1 (by omega) (by omega)
          refine D.valF hA rfl (fun _ => (hr29 _ _ _ _ _ _ _ _ _ _ _ Try.underlying22 info3 rfl rfl rfl (by omega))) rfl ?_; clear hA a; intro a hA
          refine D.buildSl (cells := #[.int .i64 (U.getD 0 0)]) hA hM rfl Try.underlying22 info3 rfl rfl rfl rfl (by kernel_rfl) rfl ?_; clear hA hM a; intro b30 w9 hb31 hM; refine ⟨(fun hM => (hM.drop 0)) hM.tail, fun a hA => ?_⟩
          replace hM : Mem _ _ [pt b30 #[.int .i64 (U.getD 0 0)] 3, own 3 1 (.slice oa Z.length oc) Z.length (Z.map (Value.int .i64))] _ := hM
          refine D.append (k := 1) (k2 := 0) hA hM rfl rfl rfl Try.underlying22 info3 rfl rfl rfl rfl rfl rfl rfl rfl rfl (by first | (unfold maxLen; omega) | (rw [List.length_append]; unfold maxLen; omega) | (show (_ + _) * 8 ≤ (140737488355328 : Nat); omega) | (rw [List.length_append]; show (_ + _) * 8 ≤ (140737488355328 : Nat); omega)) (by first | (unfold maxLen; omega) | (rw [List.length_append]; unfold maxLen; omega) | (show (_ + _) * 8 ≤ (140737488355328 : Nat); omega) | (rw [List.length_append]; show (_ + _) * 8 ≤ (140737488355328 : Nat); omega)) rfl ?_; clear hA hM a; intro a32 c33 w10 hM
          replace hM : Mem _ _ [pt b30 #[.int .i64 (U.getD 0 0)] 3, own 3 1 (.slice a32 (Z.length + 1) c33) (Z.length + 1) (Z.map (Value.int .i64) ++ [.int .i64 (U.getD 0 0)])] _ := hM
          have hl34 : Z.length + 1 = (Z ++ [U.getD 0 0]).length := by simp
          rw [hl34, show Z.map (Value.int .i64) ++ [.int .i64 (U.getD 0 0)] = (Z ++ [U.getD 0 0]).map (Value.int .i64) by simp] at hM
          replace hM := hM.drop 0
          replace hM : Mem _ _ [own 3 1 (.slice a32 (((Z ++ [U.getD 0 0])).length) c33) (((Z ++ [U.getD 0 0])).length) (((Z ++ [U.getD 0 0])).map (Value.int .i64))] _ := hM
          refine ⟨(hM.drop 0), fun a hA => ?_⟩; rw [hl34] at hA; clear hl34
          refine D.valF hA rfl (fun _ => R.assign rfl) rfl ?_; clear hA a; intro a hA
          refine D.valF hA rfl (fun _ => R.assign rfl) rfl ?_; clear hA a; intro a hA
          refine D.done ?_
          replace hA : St 66 [(1, _), (6, _), (7, _), (8, _)] a := hA.sub ((.cons rfl (.cons rfl (.cons rfl (.cons rfl .nil)))))
          refine Ends.inBlock ?_
          replace hM := hM.firstN 1
          skip
          exact hNext ((as27, (U.drop 1), cs28, ra, V, rc, a32, (Z ++ [U.getD 0 0]), c33)) _ _ ((by show _ < _; simp only [List.length_drop]; omega)) ⟨hA.sub ((.cons rfl (.cons rfl (.cons rfl (.cons rfl .nil))))), hM, hsl26, hV, (by rw [← hord, mrg_stepL (by omega) (by omega) hc16]; simp), (by simp only [List.length_drop, List.length_append, List.length_cons, List.length_nil]; omega), (fun x hx => hAL x (List.mem_of_mem_drop hx)), hAR⟩
      ·
        refine Ends.exit rfl ?_
        replace hA : St 66 [(6, _), (7, _), (8, _)] a := hA.sub ((.cons rfl (.cons rfl (.cons rfl .nil))))
        refine Ends.seq ?_
        refine Ends.region ?_
        refine S.val hA (R.move rfl) rfl ?_; clear hA a; intro a hA
        refine S.val hA (R.move rfl) rfl ?_; clear hA a; intro a hA
        refine S.appendI (k := 0) hA hM rfl (hU.mem hM) Try.underlying22 info3 rfl rfl rfl rfl rfl rfl (by first | (unfold maxLen; omega) | (rw [List.length_append]; unfold maxLen; omega) | (show (_ + _) * 8 ≤ (140737488355328 : Nat); omega) | (rw [List.length_append]; show (_ + _) * 8 ≤ (140737488355328 : Nat); omega)) (by first | (unfold maxLen; omega) | (rw [List.length_append]; unfold maxLen; omega) | (show (_ + _) * 8 ≤ (140737488355328 : Nat); omega) | (rw [List.length_append]; show (_ + _) * 8 ≤ (140737488355328 : Nat); omega)) rfl ?_; clear hA hM a; intro a35 c36 w11 hM a hA
        have hl37 : Z.length + U.length = ((Z ++ U)).length := by first | (simp; done) | simp only [List.length_append]
        rw [hl37, show Z.map (Value.int .i64) ++ U.map (Value.int .i64) = ((Z ++ U)).map (Value.int .i64) by simp] at hM; rw [hl37] at hA; clear hl37
        replace hM : Mem _ _ [own 3 1 (.slice a35 (((Z ++ U)).length) c36) (((Z ++ U)).length) (((Z ++ U)).map (Value.int .i64))] _ := hM
        refine S.val hA (R.move rfl) rfl ?_; clear hA a; intro a hA
        refine S.appendI (k := 0) hA hM rfl (hV.mem hM) Try.underlying22 info3 rfl rfl rfl rfl rfl rfl (by first | (unfold maxLen; omega) | (rw [List.length_append]; unfold maxLen; omega) | (show (_ + _) * 8 ≤ (140737488355328 : Nat); omega) | (rw [List.length_append]; show (_ + _) * 8 ≤ (140737488355328 : Nat); omega)) (by first | (unfold maxLen; omega) | (rw [List.length_append]; unfold maxLen; omega) | (show (_ + _) * 8 ≤ (140737488355328 : Nat); omega) | (rw [List.length_append]; show (_ + _) * 8 ≤ (140737488355328 : Nat); omega)) rfl ?_; clear hA hM a; intro a38 c39 w12 hM a hA
        have hl40 : (((Z ++ U)).length) + V.length = (((Z ++ U) ++ V)).length := by first | (simp; done) | simp only [List.length_append]
        rw [hl40, show ((Z ++ U)).map (Value.int .i64) ++ V.map (Value.int .i64) = (((Z ++ U) ++ V)).map (Value.int .i64) by simp] at hM; rw [hl40] at hA; clear hl40
        replace hM : Mem _ _ [own 3 1 (.slice a38 ((((Z ++ U) ++ V)).length) c39) ((((Z ++ U) ++ V)).length) ((((Z ++ U) ++ V)).map (Value.int .i64))] _ := hM
        refine S.val hA (R.assign rfl) rfl ?_; clear hA a; intro a hA
        refine S.done ?_
        replace hA : St 66 [(4, _)] a := hA.sub ((.cons rfl .nil))
        refine Ends.ret1 Try.func26 Try.results26 hA rfl ?_
        have hend := mrg_end (lt := lt) (X := U) (Y := V) (by omega)
        have hfin : msort lt (f + 1) X = (Z ++ U) ++ V := by rw [msort, if_neg (by omega), ← hord, hend, List.append_assoc]
        rw [hfin]
        have hr := hM.rsl (k := 0) rfl
        exact ⟨_, _, rfl, hr, Mem.trans0 hbs hM.nilL⟩
    ·
      refine Ends.region ?_
      refine S.val hA (R.move rfl) rfl ?_; clear hA a; intro a hA
      refine S.val hA (R.lenS Try.underlying22 rfl rfl) rfl ?_; clear hA a; intro a hA
      refine S.val hA (R.gtr rfl rfl) rfl ?_; clear hA a; intro a hA
      refine S.val hA (R.move rfl) rfl ?_; clear hA a; intro a hA
      refine hA.split (d := 32) rfl ?_ ?_
      · clear hA; intro hg41 hA
        refine S.valg (dj := 32) hA (by kernel_rfl) rfl (R.move rfl) rfl ?_; clear hA a; intro a hA
        refine S.valg (dj := 32) hA (by kernel_rfl) rfl (R.lenS Try.underlying22 rfl rfl) rfl ?_; clear hA a; intro a hA
        refine S.valg (dj := 32) hA (by kernel_rfl) rfl (R.gtr rfl rfl) rfl ?_; clear hA a; intro a hA
        refine S.val hA (R.pickT rfl rfl) rfl ?_; clear hA a; intro a hA
        refine S.done ?_
        replace hA : St 66 [(1, _), (6, _), (7, _), (8, _), (36, _)] a := hA.sub ((.cons rfl (.cons rfl (.cons rfl (.cons rfl (.cons rfl .nil))))))
        exact hJ _ _ ⟨hA.sub (.cons rfl (.cons rfl (.cons rfl (.cons rfl (.cons (by first | rfl | exact congrArg (fun b => some (Value.bool b)) (by first | exact decide_eq_decide.2 (by omega) | exact or_bool (by omega) | exact and_bool (by omega) | (simp; done) | (simp [hg41]; done) | (have h80 := hg41; (try simp at h80); simp [h80]; done) | exact (decide_eq_false (fun h9 => hg41 h9.1)).symm)) .nil))))), hM⟩
      · clear hA; intro hg41 hA
        refine S.no (dj := 32) hA (by kernel_rfl) rfl rfl rfl ?_; clear hA a; intro a hA
        refine S.no (dj := 32) hA (by kernel_rfl) rfl rfl rfl ?_; clear hA a; intro a hA
        refine S.no (dj := 32) hA (by kernel_rfl) rfl rfl rfl ?_; clear hA a; intro a hA
        refine S.val hA (R.pickF rfl rfl) rfl ?_; clear hA a; intro a hA
        refine S.done ?_
        replace hA : St 66 [(1, _), (6, _), (7, _), (8, _), (36, _)] a := hA.sub ((.cons rfl (.cons rfl (.cons rfl (.cons rfl (.cons rfl .nil))))))
        exact hJ _ _ ⟨hA.sub (.cons rfl (.cons rfl (.cons rfl (.cons rfl (.cons (by first | rfl | exact congrArg (fun b => some (Value.bool b)) (by first | exact decide_eq_decide.2 (by omega) | exact or_bool (by omega) | exact and_bool (by omega) | (simp; done) | (simp [hg41]; done) | (have h80 := hg41; (try simp at h80); simp [h80]; done) | exact (decide_eq_false (fun h9 => hg41 h9.1)).symm)) .nil))))), hM⟩
theorem merge_any {lt : Int → Int → Bool} {A : Int → Prop} {cf : FuncId} {cs : Array Value} {fn : Func} (hcf : Try.prog.funcs[cf]? = some fn) (hcn : (fn.name == "runtime.NumGoroutine") = false) (hcb : fn.body.isNone = false) : ∀ f, MergeAt A lt cf cs (f + 1)
  | 0 => fun ax X cx w h1 h2 h3 h4 h5 => merge_step hcf hcn hcb 0 (fun ax X cx w h1 _ _ h4 _ => merge_short cf cs ax X cx (by omega) w h4) ax X cx h1 h2 h3 w h4 h5
  | f + 1 => fun ax X cx w h1 h2 h3 h4 h5 => merge_step hcf hcn hcb (f + 1) (merge_any hcf hcn hcb f) ax X cx h1 h2 h3 w h4 h5
end Go.Proofs.Ytphpbdnmdhlnoaa
