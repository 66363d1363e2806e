/-
  Ranks and the orders of ranks, by the program and by the reference; inverses, orders put together.
-/
import Derived.Test.YtphpbdnmdhlnoaaOrdY
import Derived.Test.YtphpbdnmdhlnoaaOrd6
import Derived.Test.YtphpbdnmdhlnoaaDel
namespace Go.Proofs.Ytphpbdnmdhlnoaa
open Go.RowKit
theorem plain_ownN (n : Nat) (hn : n ≤ 1000) (w : World) : Calls Try.prog 27 #[.int .i64 (n : Int)] w fun e w' => ∃ g c, e = .returned (.slice (some ⟨g, 0, none⟩) (pl n).length c) ∧ Mem w nof [own 3 1 (.slice (some ⟨g, 0, none⟩) (pl n).length c) (pl n).length ((pl n).map (Value.int .i64))] w' :=
  plain_own n (by omega) w
theorem ok_rng {X : List Int} (h : okP X = true) {k : Nat} (hk : k < X.length) : 0 ≤ X.getD k 0 ∧ X.getD k 0 < X.length := (of_decide_eq_true h).2 _ (getD_mem hk)
def invR (X Y : List Int) (er : Int) : Prop := (okP X = false ∧ er = 1 ∧ Y = []) ∨ (okP X = true ∧ er = 0 ∧ Y.length = X.length ∧ ∀ k, k < X.length → Y.getD (X.getD k 0).toNat 0 = (k : Int))
def thenR (X Z Y : List Int) (er : Int) : Prop := (¬ (okP X = true ∧ okP Z = true ∧ X.length = Z.length) ∧ er = 1 ∧ Y = []) ∨ ((okP X = true ∧ okP Z = true ∧ X.length = Z.length) ∧ er = 0 ∧ Y.length = X.length ∧ ∀ k, k < X.length → Y.getD k 0 = X.getD (Z.getD k 0).toNat 0)
set_option maxRecDepth 100000 in
set_option maxHeartbeats 400000 in
theorem rrank09 (ax : Option Addr) (X : List Int) (cx : Nat) (hX : X.length ≤ 1000) (w : World) (hx : IntSl w (.slice ax X.length cx) X) :
    Calls Try.prog 15 #[.slice ax X.length cx] w fun e w' => e = .returned (.tuple #[.int .i64 (rkV X), .int .i64 (rkE X)]) ∧ Below w.heap.size w w' := by
  have hbs := Below.refl (B := w.heap.size) w
  have hM := Mem.start w
  refine Calls.of_ends (vs := [.slice ax X.length cx]) Try.func15 rfl Try.ntmps15 rfl ?_
  intro a hA
  replace hA : St 50 [(0, _)] a := hA
  refine Ends.seq ?_
  refine Ends.region ?_
  refine S.val hA (R.assign rfl) rfl ?_; clear hA a; intro a hA
  refine S.val hA (R.assign rfl) rfl ?_; clear hA a; intro a hA
  refine S.done ?_
  replace hA : St 50 [(0, _)] a := hA.sub ((.cons rfl .nil))
  refine Ends.seq ?_
  refine Ends.seq ?_
  refine Ends.region ?_
  refine S.val hA (R.move rfl) rfl ?_; clear hA a; intro a hA
  refine S.call hA (R.callF Try.func14 rfl rfl rfl) rfl (ris09 ax X cx (by omega) _ (hx.mem hM)) ?_; clear hA a
  rintro e w1 ⟨rfl, hb⟩
  replace hM := hM.callB hb; clear hb
  refine ⟨.bool ((okP X)), rfl, fun a hA => ?_⟩
  refine S.val hA (R.not rfl) rfl ?_; clear hA a; intro a hA
  refine S.done ?_
  replace hA : St 50 [(0, _), (10, _)] a := hA.sub ((.cons rfl (.cons rfl .nil)))
  refine Ends.iteB hA rfl (fun hc1 => ?_) (fun hc1 => ?_)
  ·
    refine Ends.seq ?_
    refine Ends.region ?_
    refine S.val hA (R.assign rfl) rfl ?_; clear hA a; intro a hA
    refine S.val hA (R.assign rfl) rfl ?_; clear hA a; intro a hA
    refine S.done ?_
    replace hA : St 50 [(0, _), (2, _), (3, _)] a := hA.sub ((.cons rfl (.cons rfl (.cons rfl .nil))))
    refine Ends.ret2 Try.func15 Try.results15 hA rfl rfl ?_
    have hok : okP X = false := by simpa using hc1
    exact ⟨by unfold rkV rkE; rw [if_pos (.inl hok), if_pos hok], Mem.trans0 hbs hM.nilL⟩
  ·
    have hok : okP X = true := by simpa using hc1
    refine Ends.skip ?_
    refine Ends.seq ?_
    refine Ends.seq ?_
    refine Ends.region ?_
    refine S.val hA (R.move rfl) rfl ?_; clear hA a; intro a hA
    refine S.val hA (R.lenS Try.underlying22 rfl rfl) rfl ?_; clear hA a; intro a hA
    refine S.val hA (R.gtr rfl rfl) rfl ?_; clear hA a; intro a hA
    refine S.done ?_
    replace hA : St 50 [(0, _), (13, _)] a := hA.sub ((.cons rfl (.cons rfl .nil)))
    refine Ends.ite hA rfl (fun hc2 => ?_) (fun hc2 => ?_)
    ·
      refine Ends.seq ?_
      refine Ends.region ?_
      refine S.val hA (R.assign rfl) rfl ?_; clear hA a; intro a hA
      refine S.val hA (R.assign rfl) rfl ?_; clear hA a; intro a hA
      refine S.done ?_
      replace hA : St 50 [(0, _), (2, _), (3, _)] a := hA.sub ((.cons rfl (.cons rfl (.cons rfl .nil))))
      refine Ends.ret2 Try.func15 Try.results15 hA rfl rfl ?_
      have h20 : 20 < X.length := by omega
      exact ⟨by unfold rkV rkE; rw [if_pos (.inr h20), if_neg (by rw [hok]; simp), if_pos h20], Mem.trans0 hbs hM.nilL⟩
    ·
      have h20 : X.length ≤ 20 := by omega
      refine Ends.skip ?_
      refine Ends.seq ?_
      refine Ends.region ?_
      refine S.val hA (R.assign rfl) rfl ?_; clear hA a; intro a hA
      refine S.done ?_
      replace hA : St 50 [(0, _), (4, _)] a := hA.sub ((.cons rfl (.cons rfl .nil)))
      refine Ends.seq ?_
      refine Ends.seq ?_
      refine Ends.region ?_
      refine S.val hA (R.assign rfl) rfl ?_; clear hA a; intro a hA
      refine S.done ?_
      replace hA : St 50 [(0, _), (4, _), (5, _)] a := hA.sub ((.cons rfl (.cons rfl (.cons rfl .nil))))
      refine Ends.block ?_
      refine Ends.loop (σ := Nat × Nat) (fun (k, acc) (a : Act) (wv : World) => St 50 [(0, .slice ax X.length cx), (4, .int .i64 ((acc : Int))), (5, .int .i64 ((k : Int)))] a ∧ Mem w nof [] wv ∧ (k ≤ X.length) ∧ (acc + rnk (X.drop k) = rnk X)) (fun (k, acc) => X.length - k) ((0, 0)) ⟨hA.sub ((.cons rfl (.cons rfl (.cons rfl .nil)))), hM, (Nat.zero_le _), (by rw [Nat.zero_add]; rfl)⟩ ?_
      clear hA hM a
      rintro ⟨k, acc⟩ a w2 ⟨hA, hM, hk, hacc⟩ hNext
      refine Ends.seq ?_
      refine Ends.seq ?_
      refine Ends.region ?_
      refine S.val hA (R.move rfl) rfl ?_; clear hA a; intro a hA
      refine S.val hA (R.move rfl) rfl ?_; clear hA a; intro a hA
      refine S.val hA (R.lenS Try.underlying22 rfl rfl) rfl ?_; clear hA a; intro a hA
      refine S.val hA (R.lss rfl rfl) rfl ?_; clear hA a; intro a hA
      refine S.done ?_
      replace hA : St 50 [(0, _), (4, _), (5, _), (17, _)] a := hA.sub ((.cons rfl (.cons rfl (.cons rfl (.cons rfl .nil)))))
      refine Ends.ite hA rfl (fun hc3 => ?_) (fun hc3 => ?_)
      ·
        have hdl : (X.drop (k + 1)).length = X.length - (k + 1) := List.length_drop
        have hst := rk_step2 (X := X) (k := k) (by omega) hacc
        have hbd := rk_bound h20
        have hpr : ((lessn (X.getD k 0) (X.drop (k + 1)) : Nat) : Int) * ((fac (X.length - 1 - k) : Nat) : Int) = ((lessn (X.getD k 0) (X.drop (k + 1)) * fac (X.length - 1 - k) : Nat) : Int) := (Int.natCast_mul _ _).symm
        refine Ends.skip ?_
        refine Ends.seq ?_
        refine Ends.block ?_
        refine Ends.seq ?_
        refine Ends.region ?_
        refine S.val hA (R.assign rfl) rfl ?_; clear hA a; intro a hA
        refine S.done ?_
        replace hA : St 50 [(0, _), (4, _), (5, _), (6, _)] a := hA.sub ((.cons rfl (.cons rfl (.cons rfl (.cons rfl .nil)))))
        refine Ends.seq ?_
        refine Ends.seq ?_
        refine Ends.region ?_
        refine S.val hA (R.move rfl) rfl ?_; clear hA a; intro a hA
        refine S.val hA (R.addI rfl rfl (r := ((k : Int)) + 1) rfl (by first | exact hpr | omega)) rfl ?_; clear hA a; intro a hA
        refine S.val hA (R.assign rfl) rfl ?_; clear hA a; intro a hA
        refine S.done ?_
        replace hA : St 50 [(0, _), (4, _), (5, _), (6, _), (7, _)] a := hA.sub ((.cons rfl (.cons rfl (.cons rfl (.cons rfl (.cons rfl .nil))))))
        refine Ends.block ?_
        replace hA : St 50 [(0, .slice ax X.length cx), (4, .int .i64 ((acc : Int))), (5, .int .i64 ((k : Int))), (6, .int .i64 (((lessn (X.getD k 0) ((X.drop (k + 1)).take 0) : Nat) : Int))), (7, .int .i64 (((k + 1 + 0 : Nat) : Int)))] a := by rw [show ((lessn (X.getD k 0) ((X.drop (k + 1)).take 0) : Nat) : Int) = 0 by simp [lessn], show ((k + 1 + 0 : Nat) : Int) = (k : Int) + 1 by omega]; exact hA
        refine Ends.loop (σ := Nat) (fun j (a : Act) (wv : World) => St 50 [(0, .slice ax X.length cx), (4, .int .i64 ((acc : Int))), (5, .int .i64 ((k : Int))), (6, .int .i64 (((lessn (X.getD k 0) ((X.drop (k + 1)).take j) : Nat) : Int))), (7, .int .i64 (((k + 1 + j : Nat) : Int)))] a ∧ Mem w nof [] wv ∧ (k + 1 + j ≤ X.length)) (fun j => X.length - j) 0 ⟨hA.sub ((.cons rfl (.cons rfl (.cons rfl (.cons rfl (.cons rfl .nil)))))), hM, (by omega)⟩ ?_
        clear hA hM a
        rintro j a w3 ⟨hA, hM, hj⟩ hNext1
        refine Ends.seq ?_
        refine Ends.seq ?_
        refine Ends.region ?_
        refine S.val hA (R.move rfl) rfl ?_; clear hA a; intro a hA
        refine S.val hA (R.move rfl) rfl ?_; clear hA a; intro a hA
        refine S.val hA (R.lenS Try.underlying22 rfl rfl) rfl ?_; clear hA a; intro a hA
        refine S.val hA (R.lss rfl rfl) rfl ?_; clear hA a; intro a hA
        refine S.done ?_
        replace hA : St 50 [(0, _), (4, _), (5, _), (6, _), (7, _), (25, _)] a := hA.sub ((.cons rfl (.cons rfl (.cons rfl (.cons rfl (.cons rfl (.cons rfl .nil)))))))
        refine Ends.ite hA rfl (fun hc4 => ?_) (fun hc4 => ?_)
        ·
          have hlb := lessn_le (X.getD k 0) ((X.drop (k + 1)).take j)
          rw [List.length_take] at hlb
          have hdj : (X.drop (k + 1)).getD j 0 = X.getD (k + 1 + j) 0 := by simp only [List.getD_eq_getElem?_getD, List.getElem?_drop]
          refine Ends.skip ?_
          refine Ends.seq ?_
          refine Ends.block ?_
          refine Ends.seq ?_
          refine Ends.drawn (Mem w nof []) (.cons (0, true) (.cons (1, true) (.cons (2, true) (.cons (3, true) (.cons (4, true) (.cons (5, true) (.cons (6, true) (.cons (7, true) (.cons (8, true) .nil))))))))) 9 mixed (by kernel_rfl) (by kernel_rfl) (by kernel_rfl) hM.drew ?_
          replace hM := hM.drew
          refine D.valF hA rfl (fun _ => R.move rfl) rfl ?_; clear hA a; intro a hA
          refine D.valF hA rfl (fun _ => R.move rfl) rfl ?_; clear hA a; intro a hA
          refine D.valF hA rfl (fun _ => R.idxI hx (j := (k + 1 + j)) sl22 rfl rfl (by first | exact hpr | omega) (by first | exact hpr | omega)) rfl ?_; clear hA a; intro a hA
          refine D.val hA rfl (by kernel_rfl) (fun _ hM => R.loadI (hx.mem hM) sz3 rfl (by first | exact hpr | omega)) rfl ?_; clear hA a; intro a hA
          refine D.valF hA rfl (fun _ => R.move rfl) rfl ?_; clear hA a; intro a hA
          refine D.valF hA rfl (fun _ => R.move rfl) rfl ?_; clear hA a; intro a hA
          refine D.valF hA rfl (fun _ => R.idxI hx (j := k) sl22 rfl rfl (by first | exact hpr | omega) (rfl)) rfl ?_; clear hA a; intro a hA
          refine D.val hA rfl (by kernel_rfl) (fun _ hM => R.loadI (hx.mem hM) sz3 rfl (by first | exact hpr | omega)) rfl ?_; clear hA a; intro a hA
          refine D.valF hA rfl (fun _ => R.lss rfl rfl) rfl ?_; clear hA a; intro a hA
          refine D.done ?_
          replace hA : St 50 [(0, _), (4, _), (5, _), (6, _), (7, _), (36, _)] a := hA.sub ((.cons rfl (.cons rfl (.cons rfl (.cons rfl (.cons rfl (.cons rfl .nil)))))))
          refine Ends.ite hA rfl (fun hc5 => ?_) (fun hc5 => ?_)
          ·
            refine Ends.region ?_
            refine S.val hA (R.move rfl) rfl ?_; clear hA a; intro a hA
            refine S.val hA (R.addI rfl rfl (r := (((lessn (X.getD k 0) ((X.drop (k + 1)).take j) : Nat) : Int)) + 1) rfl (by first | exact hpr | omega)) rfl ?_; clear hA a; intro a hA
            refine S.val hA (R.assign rfl) rfl ?_; clear hA a; intro a hA
            refine S.done ?_
            replace hA : St 50 [(0, _), (4, _), (5, _), (6, _), (7, _)] a := hA.sub ((.cons rfl (.cons rfl (.cons rfl (.cons rfl (.cons rfl .nil))))))
            refine Ends.inBlock ?_
            refine Ends.region ?_
            refine S.val hA (R.move rfl) rfl ?_; clear hA a; intro a hA
            refine S.val hA (R.addI rfl rfl (r := (((k + 1 + j : Nat) : Int)) + 1) rfl (by first | exact hpr | omega)) rfl ?_; clear hA a; intro a hA
            refine S.val hA (R.assign rfl) rfl ?_; clear hA a; intro a hA
            refine S.done ?_
            replace hA : St 50 [(0, _), (4, _), (5, _), (6, _), (7, _)] a := hA.sub ((.cons rfl (.cons rfl (.cons rfl (.cons rfl (.cons rfl .nil))))))
            have hls := lessn_take (x := X.getD k 0) (t := X.drop (k + 1)) (j := j) (by omega)
            rw [hdj, if_pos hc5] at hls
            rw [show ((lessn (X.getD k 0) ((X.drop (k + 1)).take j) : Nat) : Int) + 1 = ((lessn (X.getD k 0) ((X.drop (k + 1)).take (j + 1)) : Nat) : Int) by rw [hls]; omega] at hA
            rw [show ((k + 1 + j : Nat) : Int) + 1 = ((k + 1 + (j + 1) : Nat) : Int) by omega] at hA
            exact hNext1 ((j + 1)) _ _ ((by show X.length - (j + 1) < X.length - j; omega)) ⟨hA.sub ((.cons rfl (.cons rfl (.cons rfl (.cons rfl (.cons rfl .nil)))))), hM, (by omega)⟩
          ·
            refine Ends.skip ?_
            refine Ends.inBlock ?_
            refine Ends.region ?_
            refine S.val hA (R.move rfl) rfl ?_; clear hA a; intro a hA
            refine S.val hA (R.addI rfl rfl (r := (((k + 1 + j : Nat) : Int)) + 1) rfl (by first | exact hpr | omega)) rfl ?_; clear hA a; intro a hA
            refine S.val hA (R.assign rfl) rfl ?_; clear hA a; intro a hA
            refine S.done ?_
            replace hA : St 50 [(0, _), (4, _), (5, _), (6, _), (7, _)] a := hA.sub ((.cons rfl (.cons rfl (.cons rfl (.cons rfl (.cons rfl .nil))))))
            have hls := lessn_take (x := X.getD k 0) (t := X.drop (k + 1)) (j := j) (by omega)
            rw [hdj, if_neg hc5] at hls
            rw [show ((lessn (X.getD k 0) ((X.drop (k + 1)).take j) : Nat) : Int) = ((lessn (X.getD k 0) ((X.drop (k + 1)).take (j + 1)) : Nat) : Int) by rw [hls]; rfl] at hA
            rw [show ((k + 1 + j : Nat) : Int) + 1 = ((k + 1 + (j + 1) : Nat) : Int) by omega] at hA
            exact hNext1 ((j + 1)) _ _ ((by show X.length - (j + 1) < X.length - j; omega)) ⟨hA.sub ((.cons rfl (.cons rfl (.cons rfl (.cons rfl (.cons rfl .nil)))))), hM, (by omega)⟩
        ·
          rw [List.take_of_length_le (by omega)] at hA
          refine Ends.exit rfl ?_
          replace hA : St 50 [(0, _), (4, _), (5, _), (6, _)] a := hA.sub ((.cons rfl (.cons rfl (.cons rfl (.cons rfl .nil)))))
          refine Ends.region ?_
          refine S.val hA (R.move rfl) rfl ?_; clear hA a; intro a hA
          refine S.val hA (R.move rfl) rfl ?_; clear hA a; intro a hA
          refine S.val hA (R.move rfl) rfl ?_; clear hA a; intro a hA
          refine S.val hA (R.lenS Try.underlying22 rfl rfl) rfl ?_; clear hA a; intro a hA
          refine S.val hA (R.subI rfl rfl (r := ((X.length : Int)) - 1) rfl (by first | exact hpr | omega)) rfl ?_; clear hA a; intro a hA
          refine S.val hA (R.move rfl) rfl ?_; clear hA a; intro a hA
          refine S.val hA (R.subI rfl rfl (r := ((X.length - 1 - k : Nat) : Int)) (by first | exact hpr | omega) (by first | exact hpr | omega)) rfl ?_; clear hA a; intro a hA
          refine S.call hA (R.callF Try.func33 rfl rfl rfl) rfl (fac09 (X.length - 1 - k) (by omega) _) ?_; clear hA a
          rintro e w4 ⟨rfl, hb⟩
          replace hM := hM.callB hb; clear hb
          refine ⟨.int .i64 (((fac (X.length - 1 - k) : Nat) : Int)), rfl, fun a hA => ?_⟩
          refine S.val hA (R.mulI rfl rfl (r := ((lessn (X.getD k 0) (X.drop (k + 1)) * fac (X.length - 1 - k) : Nat) : Int)) (by first | exact hpr | omega) (by first | exact hpr | omega)) rfl ?_; clear hA a; intro a hA
          refine S.val hA (R.addI rfl rfl (r := ((acc + lessn (X.getD k 0) (X.drop (k + 1)) * fac (X.length - 1 - k) : Nat) : Int)) (by first | exact hpr | omega) (by first | exact hpr | omega)) rfl ?_; clear hA a; intro a hA
          refine S.val hA (R.assign rfl) rfl ?_; clear hA a; intro a hA
          refine S.done ?_
          replace hA : St 50 [(0, _), (4, _), (5, _)] a := hA.sub ((.cons rfl (.cons rfl (.cons rfl .nil))))
          refine Ends.inBlock ?_
          refine Ends.region ?_
          refine S.val hA (R.move rfl) rfl ?_; clear hA a; intro a hA
          refine S.val hA (R.addI rfl rfl (r := ((k : Int)) + 1) rfl (by first | exact hpr | omega)) rfl ?_; clear hA a; intro a hA
          refine S.val hA (R.assign rfl) rfl ?_; clear hA a; intro a hA
          refine S.done ?_
          replace hA : St 50 [(0, _), (4, _), (5, _)] a := hA.sub ((.cons rfl (.cons rfl (.cons rfl .nil))))
          exact hNext ((k + 1, acc + lessn (X.getD k 0) (X.drop (k + 1)) * fac (X.length - 1 - k))) _ _ ((by show X.length - (k + 1) < X.length - k; omega)) ⟨hA.sub ((.cons rfl (.cons rfl (.cons rfl .nil)))), hM, (by omega), (rk_step2 (by omega) hacc)⟩
      ·
        obtain rfl : k = X.length := by omega
        rw [List.drop_length] at hacc
        have hfin : acc = rnk X := by simpa [rnk] using hacc
        subst hfin
        refine Ends.exit rfl ?_
        replace hA : St 50 [(4, _)] a := hA.sub ((.cons rfl .nil))
        refine Ends.seq ?_
        refine Ends.region ?_
        refine S.val hA (R.move rfl) rfl ?_; clear hA a; intro a hA
        refine S.val hA (R.assign rfl) rfl ?_; clear hA a; intro a hA
        refine S.val hA (R.assign rfl) rfl ?_; clear hA a; intro a hA
        refine S.done ?_
        replace hA : St 50 [(2, _), (3, _)] a := hA.sub ((.cons rfl (.cons rfl .nil)))
        refine Ends.ret2 Try.func15 Try.results15 hA rfl rfl ?_
        exact ⟨by unfold rkV rkE; rw [if_neg (by rw [hok]; simp; omega), if_neg (by rw [hok]; simp), if_neg (by omega)], Mem.trans0 hbs hM.nilL⟩
set_option maxRecDepth 100000 in
set_option maxHeartbeats 400000 in
theorem inv09 (ax : Option Addr) (X : List Int) (cx : Nat) (hX : X.length ≤ 1000) (w : World) (hx : IntSl w (.slice ax X.length cx) X) :
    Calls Try.prog 19 #[.slice ax X.length cx] w fun e w' => ∃ Y er, invR X Y er ∧ ∃ a c, e = .returned (.tuple #[.slice a Y.length c, .int .i64 er]) ∧ IntSl w' (.slice a Y.length c) Y ∧ Below w.heap.size w w' := by
  have hbs := Below.refl (B := w.heap.size) w
  have hM := Mem.start w
  refine Calls.of_ends (vs := [.slice ax X.length cx]) Try.func19 rfl Try.ntmps19 rfl ?_
  intro a hA
  replace hA : St 26 [(0, _)] a := hA
  refine Ends.seq ?_
  refine Ends.region ?_
  refine S.val hA (R.assign rfl) rfl ?_; clear hA a; intro a hA
  refine S.val hA (R.assign rfl) rfl ?_; clear hA a; intro a hA
  refine S.done ?_
  replace hA : St 26 [(0, _)] a := hA.sub ((.cons rfl .nil))
  refine Ends.seq ?_
  refine Ends.seq ?_
  refine Ends.region ?_
  refine S.val hA (R.move rfl) rfl ?_; clear hA a; intro a hA
  refine S.call hA (R.callF Try.func18 rfl rfl rfl) rfl (is09 ax X cx (by omega) _ (hx.mem hM)) ?_; clear hA a
  rintro e w1 ⟨rfl, hb⟩
  replace hM := hM.callB hb; clear hb
  refine ⟨.bool ((okP X)), rfl, fun a hA => ?_⟩
  refine S.val hA (R.not rfl) rfl ?_; clear hA a; intro a hA
  refine S.done ?_
  replace hA : St 26 [(0, _), (9, _)] a := hA.sub ((.cons rfl (.cons rfl .nil)))
  refine Ends.iteB hA rfl (fun hc1 => ?_) (fun hc1 => ?_)
  ·
    refine Ends.seq ?_
    refine Ends.region ?_
    refine S.val hA (R.assign rfl) rfl ?_; clear hA a; intro a hA
    refine S.val hA (R.assign rfl) rfl ?_; clear hA a; intro a hA
    refine S.done ?_
    replace hA : St 26 [(0, _), (2, _), (3, _)] a := hA.sub ((.cons rfl (.cons rfl (.cons rfl .nil))))
    refine Ends.ret2 Try.func19 Try.results19 hA rfl rfl ?_
    have hok : okP X = false := by simpa using hc1
    exact ⟨[], 1, .inl ⟨hok, rfl, rfl⟩, none, 0, rfl, IntSl.nil _, Mem.trans0 hbs hM.nilL⟩
  ·
    have hok : okP X = true := by simpa using hc1
    refine Ends.skip ?_
    refine Ends.seq ?_
    refine Ends.region ?_
    refine S.val hA (R.move rfl) rfl ?_; clear hA a; intro a hA
    refine S.val hA (R.lenS Try.underlying22 rfl rfl) rfl ?_; clear hA a; intro a hA
    refine S.make hA hM Try.underlying22 info3 rfl rfl rfl (by omega) (by show (8 : Int) * _ ≤ _; omega) (by omega) rfl ?_; clear hA hM a; intro b2 w2 hb3 hM a hA
    replace hM : Mem _ _ [pt b2 (madeCells #[.int .i64 0] (X.length * 1)) 3] _ := hM
    rw [Nat.mul_one, made_ints] at hM
    replace hM : Mem _ _ [pt b2 ((ints (List.replicate X.length 0))) 3] _ := hM
    refine S.val hA (R.assign rfl) rfl ?_; clear hA a; intro a hA
    refine S.done ?_
    replace hA : St 26 [(0, _), (4, _)] a := hA.sub ((.cons rfl (.cons rfl .nil)))
    refine Ends.seq ?_
    refine Ends.seq ?_
    refine Ends.region ?_
    refine S.val hA (R.move rfl) rfl ?_; clear hA a; intro a hA
    refine S.val hA (R.lenS Try.underlying22 rfl rfl) rfl ?_; clear hA a; intro a hA
    refine S.val hA (R.move rfl) rfl ?_; clear hA a; intro a hA
    refine S.done ?_
    replace hA : St 26 [(4, _), (13, _), (14, _), (15, _)] a := hA.sub ((.cons rfl (.cons rfl (.cons rfl (.cons rfl .nil)))))
    refine Ends.block ?_
    refine Ends.loop (σ := Nat × List Int) (fun (k, Z) (a : Act) (wv : World) => St 26 [(4, .slice (some ⟨b2, 0, none⟩) X.length X.length), (13, .slice ax X.length cx), (14, .int .i64 ((X.length : Int))), (15, .int .i64 ((k : Int)))] a ∧ Mem w nof [pt b2 ((ints Z)) 3] wv ∧ (k ≤ X.length) ∧ (Z.length = X.length) ∧ (∀ i, i < k → Z.getD (X.getD i 0).toNat 0 = (i : Int))) (fun (k, Z) => X.length - k) ((0, List.replicate X.length 0)) ⟨hA.sub ((.cons rfl (.cons rfl (.cons rfl (.cons rfl .nil))))), hM, (Nat.zero_le _), (by simp), (fun i hi => absurd hi (Nat.not_lt_zero _))⟩ ?_
    clear hA hM a
    rintro ⟨k, Z⟩ a w3 ⟨hA, hM, hk, hZl, hZ⟩ hNext
    refine Ends.seq ?_
    refine Ends.region ?_
    refine S.val hA (R.lss rfl rfl) rfl ?_; clear hA a; intro a hA
    refine S.done ?_
    replace hA : St 26 [(4, _), (13, _), (14, _), (15, _), (16, _)] a := hA.sub ((.cons rfl (.cons rfl (.cons rfl (.cons rfl (.cons rfl .nil))))))
    refine Ends.seq ?_
    refine Ends.ite hA rfl (fun hc4 => ?_) (fun hc4 => ?_)
    ·
      have hrg := ok_rng hok (show k < X.length by omega)
      refine Ends.skip ?_
      refine Ends.seq ?_
      refine Ends.block ?_
      refine Ends.seq ?_
      refine Ends.region ?_
      refine S.val hA (R.move rfl) rfl ?_; clear hA a; intro a hA
      refine S.val hA (R.idxI hx (j := k) sl22 rfl rfl (by omega) (rfl)) rfl ?_; clear hA a; intro a hA
      refine S.val hA (R.loadI (hx.mem hM) sz3 rfl (by omega)) rfl ?_; clear hA a; intro a hA
      refine S.val hA (R.assign rfl) rfl ?_; clear hA a; intro a hA
      refine S.val hA (R.assign rfl) rfl ?_; clear hA a; intro a hA
      refine S.done ?_
      replace hA : St 26 [(4, _), (5, _), (6, _), (13, _), (14, _), (15, _)] a := hA.sub ((.cons rfl (.cons rfl (.cons rfl (.cons rfl (.cons rfl (.cons rfl .nil)))))))
      refine Ends.region ?_
      refine S.val hA (R.move rfl) rfl ?_; clear hA a; intro a hA
      refine S.val hA (R.move rfl) rfl ?_; clear hA a; intro a hA
      refine S.val hA (R.move rfl) rfl ?_; clear hA a; intro a hA
      refine S.val hA (R.indexAddr (q := (X.getD k 0).toNat) sl22 rfl rfl (by omega) (by omega)) rfl ?_; clear hA a; intro a hA
      refine S.store (k := 0) hA hM sz3 rfl rfl rfl rfl (ints_getD Z _ (by omega)) ?_; clear hM
      intro w4 hM
      rw [ints_set] at hM
      replace hM : Mem _ _ [pt b2 ((ints (Z.set ((X.getD k 0).toNat) ((k : Int))))) 3] _ := hM
      refine S.done ?_
      replace hA : St 26 [(4, _), (13, _), (14, _), (15, _)] a := hA.sub ((.cons rfl (.cons rfl (.cons rfl (.cons rfl .nil)))))
      refine Ends.inBlock ?_
      refine Ends.region ?_
      refine S.val hA (R.addI rfl rfl (r := ((k : Int)) + 1) rfl (by omega)) rfl ?_; clear hA a; intro a hA
      refine S.val hA (R.move rfl) rfl ?_; clear hA a; intro a hA
      refine S.done ?_
      replace hA : St 26 [(4, _), (13, _), (14, _), (15, _)] a := hA.sub ((.cons rfl (.cons rfl (.cons rfl (.cons rfl .nil)))))
      exact hNext ((k + 1, (Z.set ((X.getD k 0).toNat) ((k : Int))))) _ _ ((by show X.length - (k + 1) < X.length - k; omega)) ⟨hA.sub ((.cons rfl (.cons rfl (.cons rfl (.cons rfl .nil))))), hM, (by omega), (by rw [List.length_set]; exact hZl), (fun i hi => by rw [getD_set _ _ _ _ (by omega)]; by_cases e : i = k; (rw [e, if_pos rfl]); (have h1 := ne_of_ok hok (show i < X.length by omega) (show k < X.length by omega) e; have h2 := ok_rng hok (show i < X.length by omega); rw [if_neg (by omega)]; exact hZ i (by omega)))⟩
    ·
      obtain rfl : k = X.length := by omega
      refine Ends.exit rfl ?_
      replace hA : St 26 [(4, _)] a := hA.sub ((.cons rfl .nil))
      refine Ends.seq ?_
      refine Ends.region ?_
      refine S.val hA (R.move rfl) rfl ?_; clear hA a; intro a hA
      refine S.val hA (R.assign rfl) rfl ?_; clear hA a; intro a hA
      refine S.val hA (R.assign rfl) rfl ?_; clear hA a; intro a hA
      refine S.done ?_
      replace hA : St 26 [(2, _), (3, _)] a := hA.sub ((.cons rfl (.cons rfl .nil)))
      refine Ends.ret2 Try.func19 Try.results19 hA rfl rfl ?_
      have hr := hM.ptRs (k := 0) rfl (by omega)
      rw [hZl] at hr
      exact ⟨Z, 0, .inr ⟨hok, rfl, hZl, hZ⟩, _, _, by rw [hZl], by rw [hZl]; exact hr, Mem.trans0 hbs hM.nilL⟩
set_option maxRecDepth 100000 in
set_option maxHeartbeats 400000 in
theorem then09 (ax : Option Addr) (X : List Int) (cx : Nat) (ay : Option Addr) (Y : List Int) (cy : Nat) (hX : X.length ≤ 1000) (hY : Y.length ≤ 1000) (w : World) (hx : IntSl w (.slice ax X.length cx) X) (hy : IntSl w (.slice ay Y.length cy) Y) :
    Calls Try.prog 20 #[.slice ax X.length cx, .slice ay Y.length cy] w fun e w' => ∃ T er, thenR X Y T er ∧ ∃ a c, e = .returned (.tuple #[.slice a T.length c, .int .i64 er]) ∧ IntSl w' (.slice a T.length c) T ∧ Below w.heap.size w w' := by
  have hbs := Below.refl (B := w.heap.size) w
  have hM := Mem.start w
  refine Calls.of_ends (vs := [.slice ax X.length cx, .slice ay Y.length cy]) Try.func20 rfl Try.ntmps20 rfl ?_
  intro a hA
  replace hA : St 43 [(0, _), (1, _)] a := hA
  refine Ends.seq ?_
  refine Ends.region ?_
  refine S.val hA (R.assign rfl) rfl ?_; clear hA a; intro a hA
  refine S.val hA (R.assign rfl) rfl ?_; clear hA a; intro a hA
  refine S.done ?_
  replace hA : St 43 [(0, _), (1, _)] a := hA.sub ((.cons rfl (.cons rfl .nil)))
  refine Ends.seq ?_
  refine Ends.seq ?_
  refine Ends.cut (fun (a : Act) (wv : World) => St 43 [(0, .slice ax X.length cx), (1, .slice ay Y.length cy), (23, .bool (decide ((((!((okP X))) = true ∨ (!((okP Y))) = true) ∨ ((X.length : Int)) ≠ ((Y.length : Int))))))] a ∧ Mem w nof [] wv) ?_ (fun k2 hJ => ?_)
  · clear hA hM a; rintro a w1 ⟨hA, hM⟩
    refine Ends.ite hA rfl (fun hc1 => ?_) (fun hc1 => ?_)
    ·
      refine Ends.seq ?_
      refine Ends.region ?_
      refine S.val hA (R.assign rfl) rfl ?_; clear hA a; intro a hA
      refine S.val hA (R.assign rfl) rfl ?_; clear hA a; intro a hA
      refine S.done ?_
      replace hA : St 43 [(0, _), (1, _), (4, _), (5, _)] a := hA.sub ((.cons rfl (.cons rfl (.cons rfl (.cons rfl .nil)))))
      refine Ends.ret2 Try.func20 Try.results20 hA rfl rfl ?_
      exact ⟨[], 1, .inl ⟨fun h8 => by
        have h9 := hc1
        simp [h8.1, h8.2.1] at h9
        omega, rfl, rfl⟩, none, 0, rfl, IntSl.nil _, Mem.trans0 hbs hM.nilL⟩
    ·
      obtain ⟨hok, hoy, hxy⟩ : okP X = true ∧ okP Y = true ∧ X.length = Y.length := by
        have h9 := hc1
        cases e1 : okP X <;> cases e2 : okP Y <;> simp [e1, e2] at h9 ⊢
        omega
      refine Ends.skip ?_
      refine Ends.seq ?_
      refine Ends.region ?_
      refine S.val hA (R.move rfl) rfl ?_; clear hA a; intro a hA
      refine S.val hA (R.lenS Try.underlying22 rfl rfl) rfl ?_; clear hA a; intro a hA
      refine S.make hA hM Try.underlying22 info3 rfl rfl rfl (by omega) (by show (8 : Int) * _ ≤ _; omega) (by omega) rfl ?_; clear hA hM a; intro b2 w2 hb3 hM a hA
      replace hM : Mem _ _ [pt b2 (madeCells #[.int .i64 0] (X.length * 1)) 3] _ := hM
      rw [Nat.mul_one, made_ints] at hM
      replace hM : Mem _ _ [pt b2 ((ints (List.replicate X.length 0))) 3] _ := hM
      refine S.val hA (R.assign rfl) rfl ?_; clear hA a; intro a hA
      refine S.done ?_
      replace hA : St 43 [(0, _), (1, _), (6, _)] a := hA.sub ((.cons rfl (.cons rfl (.cons rfl .nil))))
      refine Ends.seq ?_
      refine Ends.seq ?_
      refine Ends.region ?_
      refine S.val hA (R.move rfl) rfl ?_; clear hA a; intro a hA
      refine S.val hA (R.lenS Try.underlying22 rfl rfl) rfl ?_; clear hA a; intro a hA
      refine S.val hA (R.move rfl) rfl ?_; clear hA a; intro a hA
      refine S.done ?_
      replace hA : St 43 [(0, _), (6, _), (27, _), (28, _), (29, _)] a := hA.sub ((.cons rfl (.cons rfl (.cons rfl (.cons rfl (.cons rfl .nil))))))
      refine Ends.block ?_
      refine Ends.loop (σ := Nat × List Int) (fun (k, Z) (a : Act) (wv : World) => St 43 [(0, .slice ax X.length cx), (6, .slice (some ⟨b2, 0, none⟩) X.length X.length), (27, .slice ay Y.length cy), (28, .int .i64 ((Y.length : Int))), (29, .int .i64 ((k : Int)))] a ∧ Mem w nof [pt b2 ((ints Z)) 3] wv ∧ (k ≤ X.length) ∧ (Z.length = X.length) ∧ (∀ i, i < k → Z.getD i 0 = X.getD (Y.getD i 0).toNat 0)) (fun (k, Z) => X.length - k) ((0, List.replicate X.length 0)) ⟨hA.sub ((.cons rfl (.cons rfl (.cons rfl (.cons rfl (.cons rfl .nil)))))), hM, (Nat.zero_le _), (by simp), (fun i hi => absurd hi (Nat.not_lt_zero _))⟩ ?_
      clear hA hM a
      rintro ⟨k, Z⟩ a w3 ⟨hA, hM, hk, hZl, hZ⟩ hNext
      refine Ends.seq ?_
      refine Ends.region ?_
      refine S.val hA (R.lss rfl rfl) rfl ?_; clear hA a; intro a hA
      refine S.done ?_
      replace hA : St 43 [(0, _), (6, _), (27, _), (28, _), (29, _), (30, _)] a := hA.sub ((.cons rfl (.cons rfl (.cons rfl (.cons rfl (.cons rfl (.cons rfl .nil)))))))
      refine Ends.seq ?_
      refine Ends.ite hA rfl (fun hc4 => ?_) (fun hc4 => ?_)
      ·
        have hrg := ok_rng hoy (show k < Y.length by omega)
        refine Ends.skip ?_
        refine Ends.seq ?_
        refine Ends.block ?_
        refine Ends.seq ?_
        refine Ends.region ?_
        refine S.val hA (R.move rfl) rfl ?_; clear hA a; intro a hA
        refine S.val hA (R.idxI hy (j := k) sl22 rfl rfl (by omega) (rfl)) rfl ?_; clear hA a; intro a hA
        refine S.val hA (R.loadI (hy.mem hM) sz3 rfl (by omega)) rfl ?_; clear hA a; intro a hA
        refine S.val hA (R.assign rfl) rfl ?_; clear hA a; intro a hA
        refine S.val hA (R.assign rfl) rfl ?_; clear hA a; intro a hA
        refine S.done ?_
        replace hA : St 43 [(0, _), (6, _), (7, _), (8, _), (27, _), (28, _), (29, _)] a := hA.sub ((.cons rfl (.cons rfl (.cons rfl (.cons rfl (.cons rfl (.cons rfl (.cons rfl .nil))))))))
        refine Ends.region ?_
        refine S.val hA (R.move rfl) rfl ?_; clear hA a; intro a hA
        refine S.val hA (R.move rfl) rfl ?_; clear hA a; intro a hA
        refine S.val hA (R.move rfl) rfl ?_; clear hA a; intro a hA
        refine S.val hA (R.move rfl) rfl ?_; clear hA a; intro a hA
        refine S.val hA (R.idxI hx (j := (Y.getD k 0).toNat) sl22 rfl rfl (by omega) (rfl)) rfl ?_; clear hA a; intro a hA
        refine S.val hA (R.loadI (hx.mem hM) sz3 rfl (by omega)) rfl ?_; clear hA a; intro a hA
        refine S.val hA (R.indexAddr (q := k) sl22 rfl rfl (by omega) (by omega)) rfl ?_; clear hA a; intro a hA
        refine S.store (k := 0) hA hM sz3 rfl rfl rfl rfl (ints_getD Z _ (by omega)) ?_; clear hM
        intro w4 hM
        rw [ints_set] at hM
        replace hM : Mem _ _ [pt b2 ((ints (Z.set k (X.getD ((Y.getD k 0).toNat) 0)))) 3] _ := hM
        refine S.done ?_
        replace hA : St 43 [(0, _), (6, _), (27, _), (28, _), (29, _)] a := hA.sub ((.cons rfl (.cons rfl (.cons rfl (.cons rfl (.cons rfl .nil))))))
        refine Ends.inBlock ?_
        refine Ends.region ?_
        refine S.val hA (R.addI rfl rfl (r := ((k : Int)) + 1) rfl (by omega)) rfl ?_; clear hA a; intro a hA
        refine S.val hA (R.move rfl) rfl ?_; clear hA a; intro a hA
        refine S.done ?_
        replace hA : St 43 [(0, _), (6, _), (27, _), (28, _), (29, _)] a := hA.sub ((.cons rfl (.cons rfl (.cons rfl (.cons rfl (.cons rfl .nil))))))
        exact hNext ((k + 1, (Z.set k (X.getD ((Y.getD k 0).toNat) 0)))) _ _ ((by show X.length - (k + 1) < X.length - k; omega)) ⟨hA.sub ((.cons rfl (.cons rfl (.cons rfl (.cons rfl (.cons rfl .nil)))))), hM, (by omega), (by rw [List.length_set]; exact hZl), (fun i hi => by rw [getD_set _ _ _ _ (by omega)]; by_cases e : i = k; (rw [e, if_pos rfl]); (rw [if_neg e]; exact hZ i (by omega)))⟩
      ·
        obtain rfl : k = X.length := by omega
        refine Ends.exit rfl ?_
        replace hA : St 43 [(6, _)] a := hA.sub ((.cons rfl .nil))
        refine Ends.seq ?_
        refine Ends.region ?_
        refine S.val hA (R.move rfl) rfl ?_; clear hA a; intro a hA
        refine S.val hA (R.assign rfl) rfl ?_; clear hA a; intro a hA
        refine S.val hA (R.assign rfl) rfl ?_; clear hA a; intro a hA
        refine S.done ?_
        replace hA : St 43 [(4, _), (5, _)] a := hA.sub ((.cons rfl (.cons rfl .nil)))
        refine Ends.ret2 Try.func20 Try.results20 hA rfl rfl ?_
        have hr := hM.ptRs (k := 0) rfl (by omega)
        rw [hZl] at hr
        exact ⟨Z, 0, .inr ⟨⟨hok, hoy, hxy⟩, rfl, hZl, hZ⟩, _, _, by rw [hZl], by rw [hZl]; exact hr, Mem.trans0 hbs hM.nilL⟩
  ·
    refine Ends.region ?_
    refine S.val hA (R.move rfl) rfl ?_; clear hA a; intro a hA
    refine S.call hA (R.callF Try.func18 rfl rfl rfl) rfl (is09 ax X cx (by omega) _ (hx.mem hM)) ?_; clear hA a
    rintro e w5 ⟨rfl, hb⟩
    replace hM := hM.callB hb; clear hb
    refine ⟨.bool ((okP X)), rfl, fun a hA => ?_⟩
    refine S.val hA (R.not rfl) rfl ?_; clear hA a; intro a hA
    refine S.val hA (R.move rfl) rfl ?_; clear hA a; intro a hA
    refine hA.splitB (d := 12) rfl ?_ ?_
    · clear hA; intro hg5 hA
      refine S.no (dj := 12) hA (by kernel_rfl) rfl rfl rfl ?_; clear hA a; intro a hA
      refine S.no (dj := 12) hA (by kernel_rfl) rfl rfl rfl ?_; clear hA a; intro a hA
      refine S.no (dj := 12) hA (by kernel_rfl) rfl rfl rfl ?_; clear hA a; intro a hA
      refine S.val hA (R.pickT rfl rfl) rfl ?_; clear hA a; intro a hA
      refine S.val hA (R.move rfl) rfl ?_; clear hA a; intro a hA
      refine S.no (dj := 17) hA (by kernel_rfl) rfl rfl rfl ?_; clear hA a; intro a hA
      refine S.no (dj := 17) hA (by kernel_rfl) rfl rfl rfl ?_; clear hA a; intro a hA
      refine S.no (dj := 17) hA (by kernel_rfl) rfl rfl rfl ?_; clear hA a; intro a hA
      refine S.no (dj := 17) hA (by kernel_rfl) rfl rfl rfl ?_; clear hA a; intro a hA
      refine S.no (dj := 17) hA (by kernel_rfl) rfl rfl rfl ?_; clear hA a; intro a hA
      refine S.val hA (R.pickT rfl rfl) rfl ?_; clear hA a; intro a hA
      refine S.done ?_
      replace hA : St 43 [(0, _), (1, _), (23, _)] a := hA.sub ((.cons rfl (.cons rfl (.cons rfl .nil))))
      exact hJ _ _ ⟨hA.sub (.cons rfl (.cons rfl (.cons (by first | rfl | exact congrArg (fun b => some (Value.bool b)) (by first | exact decide_eq_decide.2 (by omega) | exact or_bool (by omega) | exact and_bool (by omega) | (simp; done) | (simp [hg5]; done) | (have h80 := hg5; (try simp at h80); simp [h80]; done) | exact (decide_eq_false (fun h9 => hg5 h9.1)).symm)) .nil))), hM⟩
    · clear hA; intro hg5 hA
      refine S.valg (dj := 12) hA (by kernel_rfl) rfl (R.move rfl) rfl ?_; clear hA a; intro a hA
      refine S.callg (dj := 12) hA (by kernel_rfl) rfl (R.callF Try.func18 rfl rfl rfl) rfl (is09 ay Y cy (by omega) _ (hy.mem hM)) ?_; clear hA a
      rintro e w6 ⟨rfl, hb⟩
      replace hM := hM.callB hb; clear hb
      refine ⟨.bool ((okP Y)), rfl, fun a hA => ?_⟩
      refine S.valg (dj := 12) hA (by kernel_rfl) rfl (R.not rfl) rfl ?_; clear hA a; intro a hA
      refine S.val hA (R.pickF rfl rfl) rfl ?_; clear hA a; intro a hA
      refine S.val hA (R.move rfl) rfl ?_; clear hA a; intro a hA
      refine hA.splitB (d := 17) rfl ?_ ?_
      · clear hA; intro hg6 hA
        refine S.no (dj := 17) hA (by kernel_rfl) rfl rfl rfl ?_; clear hA a; intro a hA
        refine S.no (dj := 17) hA (by kernel_rfl) rfl rfl rfl ?_; clear hA a; intro a hA
        refine S.no (dj := 17) hA (by kernel_rfl) rfl rfl rfl ?_; clear hA a; intro a hA
        refine S.no (dj := 17) hA (by kernel_rfl) rfl rfl rfl ?_; clear hA a; intro a hA
        refine S.no (dj := 17) hA (by kernel_rfl) rfl rfl rfl ?_; clear hA a; intro a hA
        refine S.val hA (R.pickT rfl rfl) rfl ?_; clear hA a; intro a hA
        refine S.done ?_
        replace hA : St 43 [(0, _), (1, _), (23, _)] a := hA.sub ((.cons rfl (.cons rfl (.cons rfl .nil))))
        exact hJ _ _ ⟨hA.sub (.cons rfl (.cons rfl (.cons (by first | rfl | exact congrArg (fun b => some (Value.bool b)) (by first | exact decide_eq_decide.2 (by omega) | exact or_bool (by omega) | exact and_bool (by omega) | (simp; done) | (simp [hg5, hg6]; done) | (have h80 := hg5; (try simp at h80); have h81 := hg6; (try simp at h81); simp [h80, h81]; done) | exact (decide_eq_false (fun h9 => hg5 h9.1)).symm | exact (decide_eq_false (fun h9 => hg6 h9.1)).symm)) .nil))), hM⟩
      · clear hA; intro hg6 hA
        refine S.valg (dj := 17) hA (by kernel_rfl) rfl (R.move rfl) rfl ?_; clear hA a; intro a hA
        refine S.valg (dj := 17) hA (by kernel_rfl) rfl (R.lenS Try.underlying22 rfl rfl) rfl ?_; clear hA a; intro a hA
        refine S.valg (dj := 17) hA (by kernel_rfl) rfl (R.move rfl) rfl ?_; clear hA a; intro a hA
        refine S.valg (dj := 17) hA (by kernel_rfl) rfl (R.lenS Try.underlying22 rfl rfl) rfl ?_; clear hA a; intro a hA
        refine S.valg (dj := 17) hA (by kernel_rfl) rfl (R.neq rfl rfl) rfl ?_; clear hA a; intro a hA
        refine S.val hA (R.pickF rfl rfl) rfl ?_; clear hA a; intro a hA
        refine S.done ?_
        replace hA : St 43 [(0, _), (1, _), (23, _)] a := hA.sub ((.cons rfl (.cons rfl (.cons rfl .nil))))
        exact hJ _ _ ⟨hA.sub (.cons rfl (.cons rfl (.cons (by first | rfl | exact congrArg (fun b => some (Value.bool b)) (by first | exact decide_eq_decide.2 (by omega) | exact or_bool (by omega) | exact and_bool (by omega) | (simp; done) | (simp [hg5, hg6]; done) | (have h80 := hg5; (try simp at h80); have h81 := hg6; (try simp at h81); simp [h80, h81]; done) | exact (decide_eq_false (fun h9 => hg5 h9.1)).symm | exact (decide_eq_false (fun h9 => hg6 h9.1)).symm)) .nil))), hM⟩
end Go.Proofs.Ytphpbdnmdhlnoaa
