/-
  kurganref03.Write; the law DigitWrites.
-/
import Derived.Test.YtakfcekfmdjklaaDoorDigW
import Derived.Test.YtakfcekfmdjklaaDoorDig3
namespace Go.Proofs.YtakfcekfmdjklaaDoor
open Go.RowKit

set_option maxRecDepth 100000 in
set_option maxHeartbeats 400000 in
theorem rwrite_0 (n : Int) (h : n = 0) (w : World) :
    Calls Tryd.prog 30 #[.int .i64 n] w fun e w' => e = .returned (.string ⟨(Lib.itoa n).toArray⟩) ∧ Below w.heap.size w w' := by
  have hM := Mem.start w
  refine Calls.of_ends (vs := [.int .i64 n]) Tryd.func30 rfl Tryd.ntmps30 rfl ?_
  intro a hA
  replace hA : St 38 [(0, _)] a := hA
  refine Ends.seq ?_
  refine Ends.region ?_
  refine S.val hA (R.assign rfl) rfl ?_; clear hA a; intro a hA
  refine S.done ?_
  replace hA : St 38 [(0, _)] a := hA.sub ((.cons rfl .nil))
  refine Ends.seq ?_
  refine Ends.seq ?_
  refine Ends.region ?_
  refine S.val hA (R.move rfl) rfl ?_; clear hA a; intro a hA
  refine S.val hA (R.tt (R.eql rfl rfl) (by omega)) rfl ?_; clear hA a; intro a hA
  refine S.done ?_
  replace hA : St 38 [(0, _), (8, _)] a := hA.sub ((.cons rfl (.cons rfl .nil)))
  refine Ends.condT hA rfl ?_
  refine Ends.seq ?_
  refine Ends.region ?_
  refine S.val hA (R.assign rfl) rfl ?_; clear hA a; intro a hA
  refine S.done ?_
  replace hA : St 38 [(0, _), (2, _)] a := hA.sub ((.cons rfl (.cons rfl .nil)))
  refine Ends.ret1 Tryd.func30 Tryd.results30 hA rfl ?_
  have e0 : (⟨#[48]⟩ : ByteArray) = ⟨(Lib.itoa n).toArray⟩ := by rw [itoa_p (A := 0) h, Lib.decDigits_one (by decide)]; rfl
  exact ⟨congrArg (fun z => Ending.returned (Value.string z)) e0, hM.nilL.below⟩
set_option maxRecDepth 100000 in
set_option maxHeartbeats 400000 in
theorem rwrite_p (n : Int) (A : Nat) (hn : n = ((A : Nat) : Int)) (hA : 1 ≤ A ∧ A ≤ 9223372036854775808) (hN : -9223372036854775808 ≤ n ∧ n ≤ 9223372036854775807) (w : World) :
    Calls Tryd.prog 30 #[.int .i64 n] w fun e w' => e = .returned (.string ⟨(Lib.itoa n).toArray⟩) ∧ Below w.heap.size w w' := by
  have hM := Mem.start w
  refine Calls.of_ends (vs := [.int .i64 n]) Tryd.func30 rfl Tryd.ntmps30 rfl ?_
  intro a hA
  replace hA : St 38 [(0, _)] a := hA
  refine Ends.seq ?_
  refine Ends.region ?_
  refine S.val hA (R.assign rfl) rfl ?_; clear hA a; intro a hA
  refine S.done ?_
  replace hA : St 38 [(0, _)] a := hA.sub ((.cons rfl .nil))
  refine Ends.seq ?_
  refine Ends.seq ?_
  refine Ends.region ?_
  refine S.val hA (R.move rfl) rfl ?_; clear hA a; intro a hA
  refine S.val hA (R.ff (R.eql rfl rfl) (by omega)) rfl ?_; clear hA a; intro a hA
  refine S.done ?_
  replace hA : St 38 [(0, _), (8, _)] a := hA.sub ((.cons rfl (.cons rfl .nil)))
  refine Ends.condF hA rfl ?_
  refine Ends.skip ?_
  refine Ends.seq ?_
  refine Ends.region ?_
  refine S.val hA (R.assign rfl) rfl ?_; clear hA a; intro a hA
  refine S.done ?_
  replace hA : St 38 [(0, _), (3, _)] a := hA.sub ((.cons rfl (.cons rfl .nil)))
  refine Ends.seq ?_
  refine Ends.region ?_
  refine S.val hA (R.move rfl) rfl ?_; clear hA a; intro a hA
  refine S.val hA ((R.to (v := .int .i64 ((A : Nat) : Int)) (R.assign rfl) (congrArg (Value.int .i64) hn))) rfl ?_; clear hA a; intro a hA
  refine S.done ?_
  replace hA : St 38 [(0, _), (3, _), (4, _)] a := hA.sub ((.cons rfl (.cons rfl (.cons rfl .nil))))
  refine Ends.seq ?_
  refine Ends.seq ?_
  refine Ends.region ?_
  refine S.val hA (R.assign rfl) rfl ?_; clear hA a; intro a hA
  refine S.done ?_
  replace hA : St 38 [(0, _), (3, _), (4, _), (5, _)] a := hA.sub ((.cons rfl (.cons rfl (.cons rfl (.cons rfl .nil)))))
  refine Ends.block ?_
  refine Ends.loop (σ := Nat × List UInt8) (fun (M, Z) (a : Act) (wv : World) => St 38 [(0, .int .i64 n), (3, .string (⟨Z.toArray⟩)), (4, .int .i64 (((M : Nat) : Int))), (5, .int .i64 ((Z.length : Int)))] a ∧ Mem w nof [] wv ∧ (dd M ++ Z = Lib.decDigits A) ∧ (M ≤ A)) (fun (M, Z) => M) ((A, [])) ⟨hA.sub ((.cons rfl (.cons rfl (.cons rfl (.cons rfl .nil))))), hM, (by unfold dd; rw [if_neg (by omega)]; simp), (Nat.le_refl _)⟩ ?_
  clear hA hM a
  rintro ⟨M, Z⟩ a w1 ⟨hA, hM, hS, hMA⟩ hNext
  refine Ends.seq ?_
  refine Ends.seq ?_
  have hln := dd_more hS (by omega)
  by_cases hs1 : M = 0
  ·
    by_cases hs2 : Z.length < 20
    ·
      refine Ends.region ?_
      refine S.val hA (R.move rfl) rfl ?_; clear hA a; intro a hA
      refine S.val hA (R.tt (R.lss rfl rfl) (by have := hs2; omega)) rfl ?_; clear hA a; intro a hA
      refine S.val hA (R.move rfl) rfl ?_; clear hA a; intro a hA
      refine S.valg (dj := 12) hA (by kernel_rfl) rfl (R.move rfl) rfl ?_; clear hA a; intro a hA
      refine S.valg (dj := 12) hA (by kernel_rfl) rfl (R.ff (R.neq rfl rfl) (by have := hs1; omega)) rfl ?_; clear hA a; intro a hA
      refine S.val hA (R.pickT rfl rfl) rfl ?_; clear hA a; intro a hA
      refine S.done ?_
      replace hA : St 38 [(0, _), (3, _), (4, _), (5, _), (15, _)] a := hA.sub ((.cons rfl (.cons rfl (.cons rfl (.cons rfl (.cons rfl .nil))))))
      refine Ends.condF hA rfl ?_
      refine Ends.exit rfl ?_
      replace hA : St 38 [(0, _), (3, _)] a := hA.sub ((.cons rfl (.cons rfl .nil)))
      refine Ends.seq ?_
      refine Ends.seq ?_
      refine Ends.region ?_
      refine S.val hA (R.move rfl) rfl ?_; clear hA a; intro a hA
      refine S.val hA (R.ff (R.lss rfl rfl) (by omega)) rfl ?_; clear hA a; intro a hA
      refine S.done ?_
      replace hA : St 38 [(3, _), (34, _)] a := hA.sub ((.cons rfl (.cons rfl .nil)))
      refine Ends.condF hA rfl ?_
      refine Ends.skip ?_
      refine Ends.seq ?_
      refine Ends.region ?_
      refine S.val hA (R.move rfl) rfl ?_; clear hA a; intro a hA
      refine S.val hA (R.assign rfl) rfl ?_; clear hA a; intro a hA
      refine S.done ?_
      replace hA : St 38 [(2, _)] a := hA.sub ((.cons rfl .nil))
      refine Ends.ret1 Tryd.func30 Tryd.results30 hA rfl ?_
      have eS : Z = Lib.decDigits A := by have h9 := hS; rw [hs1] at h9; simpa [dd] using h9
      have e0 : (⟨Z.toArray⟩ : ByteArray) = ⟨(Lib.itoa n).toArray⟩ := by rw [itoa_p hn, eS]
      exact ⟨congrArg (fun z => Ending.returned (Value.string z)) e0, hM.nilL.below⟩
    ·
      refine Ends.region ?_
      refine S.val hA (R.move rfl) rfl ?_; clear hA a; intro a hA
      refine S.val hA (R.ff (R.lss rfl rfl) (by have := hs2; omega)) rfl ?_; clear hA a; intro a hA
      refine S.val hA (R.move rfl) rfl ?_; clear hA a; intro a hA
      refine S.no (dj := 12) hA (by kernel_rfl) rfl rfl rfl ?_; clear hA a; intro a hA
      refine S.no (dj := 12) hA (by kernel_rfl) rfl rfl rfl ?_; clear hA a; intro a hA
      refine S.val hA (R.pickF rfl rfl) rfl ?_; clear hA a; intro a hA
      refine S.done ?_
      replace hA : St 38 [(0, _), (3, _), (4, _), (5, _), (15, _)] a := hA.sub ((.cons rfl (.cons rfl (.cons rfl (.cons rfl (.cons rfl .nil))))))
      refine Ends.condF hA rfl ?_
      refine Ends.exit rfl ?_
      replace hA : St 38 [(0, _), (3, _)] a := hA.sub ((.cons rfl (.cons rfl .nil)))
      refine Ends.seq ?_
      refine Ends.seq ?_
      refine Ends.region ?_
      refine S.val hA (R.move rfl) rfl ?_; clear hA a; intro a hA
      refine S.val hA (R.ff (R.lss rfl rfl) (by omega)) rfl ?_; clear hA a; intro a hA
      refine S.done ?_
      replace hA : St 38 [(3, _), (34, _)] a := hA.sub ((.cons rfl (.cons rfl .nil)))
      refine Ends.condF hA rfl ?_
      refine Ends.skip ?_
      refine Ends.seq ?_
      refine Ends.region ?_
      refine S.val hA (R.move rfl) rfl ?_; clear hA a; intro a hA
      refine S.val hA (R.assign rfl) rfl ?_; clear hA a; intro a hA
      refine S.done ?_
      replace hA : St 38 [(2, _)] a := hA.sub ((.cons rfl .nil))
      refine Ends.ret1 Tryd.func30 Tryd.results30 hA rfl ?_
      have eS : Z = Lib.decDigits A := by have h9 := hS; rw [hs1] at h9; simpa [dd] using h9
      have e0 : (⟨Z.toArray⟩ : ByteArray) = ⟨(Lib.itoa n).toArray⟩ := by rw [itoa_p hn, eS]
      exact ⟨congrArg (fun z => Ending.returned (Value.string z)) e0, hM.nilL.below⟩
  ·
    refine Ends.region ?_
    refine S.val hA (R.move rfl) rfl ?_; clear hA a; intro a hA
    refine S.val hA (R.tt (R.lss rfl rfl) (by have := hln.2 hs1; omega)) rfl ?_; clear hA a; intro a hA
    refine S.val hA (R.move rfl) rfl ?_; clear hA a; intro a hA
    refine S.valg (dj := 12) hA (by kernel_rfl) rfl (R.move rfl) rfl ?_; clear hA a; intro a hA
    refine S.valg (dj := 12) hA (by kernel_rfl) rfl (R.tt (R.neq rfl rfl) (by have := hs1; omega)) rfl ?_; clear hA a; intro a hA
    refine S.val hA (R.pickT rfl rfl) rfl ?_; clear hA a; intro a hA
    refine S.done ?_
    replace hA : St 38 [(0, _), (3, _), (4, _), (5, _), (15, _)] a := hA.sub ((.cons rfl (.cons rfl (.cons rfl (.cons rfl (.cons rfl .nil))))))
    refine Ends.condT hA rfl ?_
    refine Ends.skip ?_
    refine Ends.seq ?_
    refine Ends.block ?_
    refine Ends.seq ?_
    refine Ends.region ?_
    refine S.val hA (R.move rfl) rfl ?_; clear hA a; intro a hA
    refine S.val hA (R.remI rfl rfl (r := ((M % 10 : Nat) : Int)) (by omega) (by omega)) rfl ?_; clear hA a; intro a hA
    refine S.val hA (R.assign rfl) rfl ?_; clear hA a; intro a hA
    refine S.done ?_
    replace hA : St 38 [(0, _), (3, _), (4, _), (5, _), (6, _)] a := hA.sub ((.cons rfl (.cons rfl (.cons rfl (.cons rfl (.cons rfl .nil))))))
    refine Ends.seq ?_
    refine Ends.seq ?_
    refine Ends.region ?_
    refine S.val hA (R.move rfl) rfl ?_; clear hA a; intro a hA
    refine S.val hA (R.ff (R.lss rfl rfl) (by omega)) rfl ?_; clear hA a; intro a hA
    refine S.done ?_
    replace hA : St 38 [(0, _), (3, _), (4, _), (5, _), (6, _), (21, _)] a := hA.sub ((.cons rfl (.cons rfl (.cons rfl (.cons rfl (.cons rfl (.cons rfl .nil)))))))
    refine Ends.condF hA rfl ?_
    refine Ends.skip ?_
    refine Ends.seq ?_
    refine Ends.region ?_
    refine S.val hA (R.move rfl) rfl ?_; clear hA a; intro a hA
    refine S.val hA (R.addI rfl rfl (r := 48 + ((M % 10 : Nat) : Int)) (by omega) (by omega)) rfl ?_; clear hA a; intro a hA
    refine S.val hA (R.to (v := .int .u8 (48 + ((M % 10 : Nat) : Int))) (R.conv Tryd.underlying5 Tryd.underlying3 rfl) (congrArg (Value.int .u8) (u8_wrap (by omega)))) rfl ?_; clear hA a; intro a hA
    refine S.buildSl (cells := #[.int .u8 (48 + ((M % 10 : Nat) : Int))]) hA hM Tryd.underlying54 info5 rfl rfl rfl rfl (by kernel_rfl) rfl ?_; clear hA hM a; intro b3 w2 hb4 hM a hA
    replace hM : Mem _ _ [pt b3 #[.int .u8 (48 + ((M % 10 : Nat) : Int))] 5] _ := hM
    refine S.val hA (R.to (v := .string ⟨#[UInt8.ofNat (48 + M % 10)]⟩) (R.byteStr hM (k := 0) rfl Tryd.underlying54 Tryd.underlying5 Tryd.underlying9 rfl) (by rw [show (48 + ((M % 10 : Nat) : Int)).toNat = 48 + M % 10 by omega])) rfl ?_; clear hA a; intro a hA
    refine S.val hA (R.move rfl) rfl ?_; clear hA a; intro a hA
    refine S.val hA ((R.to (v := .string ⟨(UInt8.ofNat (48 + M % 10) :: Z).toArray⟩) (R.addS rfl rfl (by rw [size_mk]; show 1 + Z.length ≤ _; omega)) (congrArg Value.string (ba_cons _ _)))) rfl ?_; clear hA a; intro a hA
    refine S.val hA (R.assign rfl) rfl ?_; clear hA a; intro a hA
    refine S.done ?_
    replace hA : St 38 [(0, _), (3, _), (4, _), (5, _)] a := hA.sub ((.cons rfl (.cons rfl (.cons rfl (.cons rfl .nil)))))
    refine Ends.region ?_
    refine S.val hA (R.move rfl) rfl ?_; clear hA a; intro a hA
    refine S.val hA (R.quoI rfl rfl (r := ((M / 10 : Nat) : Int)) (by omega) (by omega)) rfl ?_; clear hA a; intro a hA
    refine S.val hA (R.assign rfl) rfl ?_; clear hA a; intro a hA
    refine S.done ?_
    replace hA : St 38 [(0, _), (3, _), (4, _), (5, _)] a := hA.sub ((.cons rfl (.cons rfl (.cons rfl (.cons rfl .nil)))))
    refine Ends.inBlock ?_
    refine Ends.region ?_
    refine S.val hA (R.move rfl) rfl ?_; clear hA a; intro a hA
    refine S.val hA ((R.addI rfl rfl (r := ((UInt8.ofNat (48 + M % 10) :: Z).length : Int)) (by rw [List.length_cons]; omega) (by rw [List.length_cons]; omega))) rfl ?_; clear hA a; intro a hA
    refine S.val hA (R.assign rfl) rfl ?_; clear hA a; intro a hA
    refine S.done ?_
    replace hA : St 38 [(0, _), (3, _), (4, _), (5, _)] a := hA.sub ((.cons rfl (.cons rfl (.cons rfl (.cons rfl .nil)))))
    replace hM := hM.nilL
    exact hNext ((M / 10, UInt8.ofNat (48 + M % 10) :: Z)) _ _ ((by show M / 10 < M; omega)) ⟨hA.sub ((.cons rfl (.cons rfl (.cons rfl (.cons rfl .nil))))), hM, (dd_next hS hs1), (by omega)⟩
set_option maxRecDepth 100000 in
set_option maxHeartbeats 400000 in
theorem rwrite_n (n : Int) (A : Nat) (hn : n = (-((A : Nat) : Int))) (hA : 1 ≤ A ∧ A ≤ 9223372036854775808) (hN : -9223372036854775808 ≤ n ∧ n ≤ 9223372036854775807) (w : World) :
    Calls Tryd.prog 30 #[.int .i64 n] w fun e w' => e = .returned (.string ⟨(Lib.itoa n).toArray⟩) ∧ Below w.heap.size w w' := by
  have hM := Mem.start w
  refine Calls.of_ends (vs := [.int .i64 n]) Tryd.func30 rfl Tryd.ntmps30 rfl ?_
  intro a hA
  replace hA : St 38 [(0, _)] a := hA
  refine Ends.seq ?_
  refine Ends.region ?_
  refine S.val hA (R.assign rfl) rfl ?_; clear hA a; intro a hA
  refine S.done ?_
  replace hA : St 38 [(0, _)] a := hA.sub ((.cons rfl .nil))
  refine Ends.seq ?_
  refine Ends.seq ?_
  refine Ends.region ?_
  refine S.val hA (R.move rfl) rfl ?_; clear hA a; intro a hA
  refine S.val hA (R.ff (R.eql rfl rfl) (by omega)) rfl ?_; clear hA a; intro a hA
  refine S.done ?_
  replace hA : St 38 [(0, _), (8, _)] a := hA.sub ((.cons rfl (.cons rfl .nil)))
  refine Ends.condF hA rfl ?_
  refine Ends.skip ?_
  refine Ends.seq ?_
  refine Ends.region ?_
  refine S.val hA (R.assign rfl) rfl ?_; clear hA a; intro a hA
  refine S.done ?_
  replace hA : St 38 [(0, _), (3, _)] a := hA.sub ((.cons rfl (.cons rfl .nil)))
  refine Ends.seq ?_
  refine Ends.region ?_
  refine S.val hA (R.move rfl) rfl ?_; clear hA a; intro a hA
  refine S.val hA ((R.to (v := .int .i64 (-((A : Nat) : Int))) (R.assign rfl) (congrArg (Value.int .i64) hn))) rfl ?_; clear hA a; intro a hA
  refine S.done ?_
  replace hA : St 38 [(0, _), (3, _), (4, _)] a := hA.sub ((.cons rfl (.cons rfl (.cons rfl .nil))))
  refine Ends.seq ?_
  refine Ends.seq ?_
  refine Ends.region ?_
  refine S.val hA (R.assign rfl) rfl ?_; clear hA a; intro a hA
  refine S.done ?_
  replace hA : St 38 [(0, _), (3, _), (4, _), (5, _)] a := hA.sub ((.cons rfl (.cons rfl (.cons rfl (.cons rfl .nil)))))
  refine Ends.block ?_
  refine Ends.loop (σ := Nat × List UInt8) (fun (M, Z) (a : Act) (wv : World) => St 38 [(0, .int .i64 n), (3, .string (⟨Z.toArray⟩)), (4, .int .i64 ((-((M : Nat) : Int)))), (5, .int .i64 ((Z.length : Int)))] a ∧ Mem w nof [] wv ∧ (dd M ++ Z = Lib.decDigits A) ∧ (M ≤ A)) (fun (M, Z) => M) ((A, [])) ⟨hA.sub ((.cons rfl (.cons rfl (.cons rfl (.cons rfl .nil))))), hM, (by unfold dd; rw [if_neg (by omega)]; simp), (Nat.le_refl _)⟩ ?_
  clear hA hM a
  rintro ⟨M, Z⟩ a w1 ⟨hA, hM, hS, hMA⟩ hNext
  refine Ends.seq ?_
  refine Ends.seq ?_
  have hln := dd_more hS (by omega)
  by_cases hs1 : M = 0
  ·
    by_cases hs2 : Z.length < 20
    ·
      refine Ends.region ?_
      refine S.val hA (R.move rfl) rfl ?_; clear hA a; intro a hA
      refine S.val hA (R.tt (R.lss rfl rfl) (by have := hs2; omega)) rfl ?_; clear hA a; intro a hA
      refine S.val hA (R.move rfl) rfl ?_; clear hA a; intro a hA
      refine S.valg (dj := 12) hA (by kernel_rfl) rfl (R.move rfl) rfl ?_; clear hA a; intro a hA
      refine S.valg (dj := 12) hA (by kernel_rfl) rfl (R.ff (R.neq rfl rfl) (by have := hs1; omega)) rfl ?_; clear hA a; intro a hA
      refine S.val hA (R.pickT rfl rfl) rfl ?_; clear hA a; intro a hA
      refine S.done ?_
      replace hA : St 38 [(0, _), (3, _), (4, _), (5, _), (15, _)] a := hA.sub ((.cons rfl (.cons rfl (.cons rfl (.cons rfl (.cons rfl .nil))))))
      refine Ends.condF hA rfl ?_
      refine Ends.exit rfl ?_
      replace hA : St 38 [(0, _), (3, _)] a := hA.sub ((.cons rfl (.cons rfl .nil)))
      refine Ends.seq ?_
      refine Ends.seq ?_
      refine Ends.region ?_
      refine S.val hA (R.move rfl) rfl ?_; clear hA a; intro a hA
      refine S.val hA (R.tt (R.lss rfl rfl) (by omega)) rfl ?_; clear hA a; intro a hA
      refine S.done ?_
      replace hA : St 38 [(3, _), (34, _)] a := hA.sub ((.cons rfl (.cons rfl .nil)))
      refine Ends.condT hA rfl ?_
      refine Ends.region ?_
      refine S.val hA (R.move rfl) rfl ?_; clear hA a; intro a hA
      refine S.val hA ((R.to (v := .string ⟨(45 :: Z).toArray⟩) (R.addS rfl rfl (by rw [size_mk]; show 1 + Z.length ≤ _; omega)) (congrArg Value.string (ba_cons _ _)))) rfl ?_; clear hA a; intro a hA
      refine S.val hA (R.assign rfl) rfl ?_; clear hA a; intro a hA
      refine S.done ?_
      replace hA : St 38 [(3, _)] a := hA.sub ((.cons rfl .nil))
      refine Ends.seq ?_
      refine Ends.region ?_
      refine S.val hA (R.move rfl) rfl ?_; clear hA a; intro a hA
      refine S.val hA (R.assign rfl) rfl ?_; clear hA a; intro a hA
      refine S.done ?_
      replace hA : St 38 [(2, _)] a := hA.sub ((.cons rfl .nil))
      refine Ends.ret1 Tryd.func30 Tryd.results30 hA rfl ?_
      have eS : Z = Lib.decDigits A := by have h9 := hS; rw [hs1] at h9; simpa [dd] using h9
      have e0 : (⟨(45 :: Z).toArray⟩ : ByteArray) = ⟨(Lib.itoa n).toArray⟩ := by rw [itoa_n hn (by omega), eS]
      exact ⟨congrArg (fun z => Ending.returned (Value.string z)) e0, hM.nilL.below⟩
    ·
      refine Ends.region ?_
      refine S.val hA (R.move rfl) rfl ?_; clear hA a; intro a hA
      refine S.val hA (R.ff (R.lss rfl rfl) (by have := hs2; omega)) rfl ?_; clear hA a; intro a hA
      refine S.val hA (R.move rfl) rfl ?_; clear hA a; intro a hA
      refine S.no (dj := 12) hA (by kernel_rfl) rfl rfl rfl ?_; clear hA a; intro a hA
      refine S.no (dj := 12) hA (by kernel_rfl) rfl rfl rfl ?_; clear hA a; intro a hA
      refine S.val hA (R.pickF rfl rfl) rfl ?_; clear hA a; intro a hA
      refine S.done ?_
      replace hA : St 38 [(0, _), (3, _), (4, _), (5, _), (15, _)] a := hA.sub ((.cons rfl (.cons rfl (.cons rfl (.cons rfl (.cons rfl .nil))))))
      refine Ends.condF hA rfl ?_
      refine Ends.exit rfl ?_
      replace hA : St 38 [(0, _), (3, _)] a := hA.sub ((.cons rfl (.cons rfl .nil)))
      refine Ends.seq ?_
      refine Ends.seq ?_
      refine Ends.region ?_
      refine S.val hA (R.move rfl) rfl ?_; clear hA a; intro a hA
      refine S.val hA (R.tt (R.lss rfl rfl) (by omega)) rfl ?_; clear hA a; intro a hA
      refine S.done ?_
      replace hA : St 38 [(3, _), (34, _)] a := hA.sub ((.cons rfl (.cons rfl .nil)))
      refine Ends.condT hA rfl ?_
      refine Ends.region ?_
      refine S.val hA (R.move rfl) rfl ?_; clear hA a; intro a hA
      refine S.val hA ((R.to (v := .string ⟨(45 :: Z).toArray⟩) (R.addS rfl rfl (by rw [size_mk]; show 1 + Z.length ≤ _; omega)) (congrArg Value.string (ba_cons _ _)))) rfl ?_; clear hA a; intro a hA
      refine S.val hA (R.assign rfl) rfl ?_; clear hA a; intro a hA
      refine S.done ?_
      replace hA : St 38 [(3, _)] a := hA.sub ((.cons rfl .nil))
      refine Ends.seq ?_
      refine Ends.region ?_
      refine S.val hA (R.move rfl) rfl ?_; clear hA a; intro a hA
      refine S.val hA (R.assign rfl) rfl ?_; clear hA a; intro a hA
      refine S.done ?_
      replace hA : St 38 [(2, _)] a := hA.sub ((.cons rfl .nil))
      refine Ends.ret1 Tryd.func30 Tryd.results30 hA rfl ?_
      have eS : Z = Lib.decDigits A := by have h9 := hS; rw [hs1] at h9; simpa [dd] using h9
      have e0 : (⟨(45 :: Z).toArray⟩ : ByteArray) = ⟨(Lib.itoa n).toArray⟩ := by rw [itoa_n hn (by omega), eS]
      exact ⟨congrArg (fun z => Ending.returned (Value.string z)) e0, hM.nilL.below⟩
  ·
    refine Ends.region ?_
    refine S.val hA (R.move rfl) rfl ?_; clear hA a; intro a hA
    refine S.val hA (R.tt (R.lss rfl rfl) (by have := hln.2 hs1; omega)) rfl ?_; clear hA a; intro a hA
    refine S.val hA (R.move rfl) rfl ?_; clear hA a; intro a hA
    refine S.valg (dj := 12) hA (by kernel_rfl) rfl (R.move rfl) rfl ?_; clear hA a; intro a hA
    refine S.valg (dj := 12) hA (by kernel_rfl) rfl (R.tt (R.neq rfl rfl) (by have := hs1; omega)) rfl ?_; clear hA a; intro a hA
    refine S.val hA (R.pickT rfl rfl) rfl ?_; clear hA a; intro a hA
    refine S.done ?_
    replace hA : St 38 [(0, _), (3, _), (4, _), (5, _), (15, _)] a := hA.sub ((.cons rfl (.cons rfl (.cons rfl (.cons rfl (.cons rfl .nil))))))
    refine Ends.condT hA rfl ?_
    refine Ends.skip ?_
    refine Ends.seq ?_
    refine Ends.block ?_
    refine Ends.seq ?_
    refine Ends.region ?_
    refine S.val hA (R.move rfl) rfl ?_; clear hA a; intro a hA
    refine S.val hA (R.to (v := .int .i64 (-((M % 10 : Nat) : Int))) (R.rem rfl rfl (by decide)) (congrArg (Value.int .i64) (by rw [Int.neg_tmod, Int.tmod_eq_emod_of_nonneg (by omega)]; omega))) rfl ?_; clear hA a; intro a hA
    refine S.val hA (R.assign rfl) rfl ?_; clear hA a; intro a hA
    refine S.done ?_
    replace hA : St 38 [(0, _), (3, _), (4, _), (5, _), (6, _)] a := hA.sub ((.cons rfl (.cons rfl (.cons rfl (.cons rfl (.cons rfl .nil))))))
    refine Ends.seq ?_
    refine Ends.seq ?_
    refine Ends.region ?_
    refine S.val hA (R.move rfl) rfl ?_; clear hA a; intro a hA
    refine S.val hA (R.lss rfl rfl) rfl ?_; clear hA a; intro a hA
    refine S.done ?_
    replace hA : St 38 [(0, _), (3, _), (4, _), (5, _), (6, _), (21, _)] a := hA.sub ((.cons rfl (.cons rfl (.cons rfl (.cons rfl (.cons rfl (.cons rfl .nil)))))))
    refine Ends.ite hA rfl (fun hc3 => ?_) (fun hc3 => ?_)
    ·
      refine Ends.region ?_
      refine S.val hA (R.move rfl) rfl ?_; clear hA a; intro a hA
      refine S.val hA (R.subI rfl rfl (r := ((M % 10 : Nat) : Int)) (by omega) (by omega)) rfl ?_; clear hA a; intro a hA
      refine S.val hA (R.assign rfl) rfl ?_; clear hA a; intro a hA
      refine S.done ?_
      replace hA : St 38 [(0, _), (3, _), (4, _), (5, _), (6, _)] a := hA.sub ((.cons rfl (.cons rfl (.cons rfl (.cons rfl (.cons rfl .nil))))))
      refine Ends.seq ?_
      refine Ends.region ?_
      refine S.val hA (R.move rfl) rfl ?_; clear hA a; intro a hA
      refine S.val hA (R.addI rfl rfl (r := 48 + ((M % 10 : Nat) : Int)) (by omega) (by omega)) rfl ?_; clear hA a; intro a hA
      refine S.val hA (R.to (v := .int .u8 (48 + ((M % 10 : Nat) : Int))) (R.conv Tryd.underlying5 Tryd.underlying3 rfl) (congrArg (Value.int .u8) (u8_wrap (by omega)))) rfl ?_; clear hA a; intro a hA
      refine S.buildSl (cells := #[.int .u8 (48 + ((M % 10 : Nat) : Int))]) hA hM Tryd.underlying54 info5 rfl rfl rfl rfl (by kernel_rfl) rfl ?_; clear hA hM a; intro b4 w2 hb5 hM a hA
      replace hM : Mem _ _ [pt b4 #[.int .u8 (48 + ((M % 10 : Nat) : Int))] 5] _ := hM
      refine S.val hA (R.to (v := .string ⟨#[UInt8.ofNat (48 + M % 10)]⟩) (R.byteStr hM (k := 0) rfl Tryd.underlying54 Tryd.underlying5 Tryd.underlying9 rfl) (by rw [show (48 + ((M % 10 : Nat) : Int)).toNat = 48 + M % 10 by omega])) rfl ?_; clear hA a; intro a hA
      refine S.val hA (R.move rfl) rfl ?_; clear hA a; intro a hA
      refine S.val hA ((R.to (v := .string ⟨(UInt8.ofNat (48 + M % 10) :: Z).toArray⟩) (R.addS rfl rfl (by rw [size_mk]; show 1 + Z.length ≤ _; omega)) (congrArg Value.string (ba_cons _ _)))) rfl ?_; clear hA a; intro a hA
      refine S.val hA (R.assign rfl) rfl ?_; clear hA a; intro a hA
      refine S.done ?_
      replace hA : St 38 [(0, _), (3, _), (4, _), (5, _)] a := hA.sub ((.cons rfl (.cons rfl (.cons rfl (.cons rfl .nil)))))
      refine Ends.region ?_
      refine S.val hA (R.move rfl) rfl ?_; clear hA a; intro a hA
      refine S.val hA (R.to (v := .int .i64 (-((M / 10 : Nat) : Int))) (R.quo rfl rfl (by decide)) (congrArg (Value.int .i64) (by rw [Int.neg_tdiv, Int.tdiv_eq_ediv_of_nonneg (by omega), i64_wrap (by omega)]; omega))) rfl ?_; clear hA a; intro a hA
      refine S.val hA (R.assign rfl) rfl ?_; clear hA a; intro a hA
      refine S.done ?_
      replace hA : St 38 [(0, _), (3, _), (4, _), (5, _)] a := hA.sub ((.cons rfl (.cons rfl (.cons rfl (.cons rfl .nil)))))
      refine Ends.inBlock ?_
      refine Ends.region ?_
      refine S.val hA (R.move rfl) rfl ?_; clear hA a; intro a hA
      refine S.val hA ((R.addI rfl rfl (r := ((UInt8.ofNat (48 + M % 10) :: Z).length : Int)) (by rw [List.length_cons]; omega) (by rw [List.length_cons]; omega))) rfl ?_; clear hA a; intro a hA
      refine S.val hA (R.assign rfl) rfl ?_; clear hA a; intro a hA
      refine S.done ?_
      replace hA : St 38 [(0, _), (3, _), (4, _), (5, _)] a := hA.sub ((.cons rfl (.cons rfl (.cons rfl (.cons rfl .nil)))))
      replace hM := hM.nilL
      exact hNext ((M / 10, UInt8.ofNat (48 + M % 10) :: Z)) _ _ ((by show M / 10 < M; omega)) ⟨hA.sub ((.cons rfl (.cons rfl (.cons rfl (.cons rfl .nil))))), hM, (dd_next hS hs1), (by omega)⟩
    ·
      refine Ends.skip ?_
      refine Ends.seq ?_
      refine Ends.region ?_
      refine S.val hA (R.move rfl) rfl ?_; clear hA a; intro a hA
      refine S.val hA (R.addI rfl rfl (r := 48 + ((M % 10 : Nat) : Int)) (by omega) (by omega)) rfl ?_; clear hA a; intro a hA
      refine S.val hA (R.to (v := .int .u8 (48 + ((M % 10 : Nat) : Int))) (R.conv Tryd.underlying5 Tryd.underlying3 rfl) (congrArg (Value.int .u8) (u8_wrap (by omega)))) rfl ?_; clear hA a; intro a hA
      refine S.buildSl (cells := #[.int .u8 (48 + ((M % 10 : Nat) : Int))]) hA hM Tryd.underlying54 info5 rfl rfl rfl rfl (by kernel_rfl) rfl ?_; clear hA hM a; intro b6 w3 hb7 hM a hA
      replace hM : Mem _ _ [pt b6 #[.int .u8 (48 + ((M % 10 : Nat) : Int))] 5] _ := hM
      refine S.val hA (R.to (v := .string ⟨#[UInt8.ofNat (48 + M % 10)]⟩) (R.byteStr hM (k := 0) rfl Tryd.underlying54 Tryd.underlying5 Tryd.underlying9 rfl) (by rw [show (48 + ((M % 10 : Nat) : Int)).toNat = 48 + M % 10 by omega])) rfl ?_; clear hA a; intro a hA
      refine S.val hA (R.move rfl) rfl ?_; clear hA a; intro a hA
      refine S.val hA ((R.to (v := .string ⟨(UInt8.ofNat (48 + M % 10) :: Z).toArray⟩) (R.addS rfl rfl (by rw [size_mk]; show 1 + Z.length ≤ _; omega)) (congrArg Value.string (ba_cons _ _)))) rfl ?_; clear hA a; intro a hA
      refine S.val hA (R.assign rfl) rfl ?_; clear hA a; intro a hA
      refine S.done ?_
      replace hA : St 38 [(0, _), (3, _), (4, _), (5, _)] a := hA.sub ((.cons rfl (.cons rfl (.cons rfl (.cons rfl .nil)))))
      refine Ends.region ?_
      refine S.val hA (R.move rfl) rfl ?_; clear hA a; intro a hA
      refine S.val hA (R.to (v := .int .i64 (-((M / 10 : Nat) : Int))) (R.quo rfl rfl (by decide)) (congrArg (Value.int .i64) (by rw [Int.neg_tdiv, Int.tdiv_eq_ediv_of_nonneg (by omega), i64_wrap (by omega)]; omega))) rfl ?_; clear hA a; intro a hA
      refine S.val hA (R.assign rfl) rfl ?_; clear hA a; intro a hA
      refine S.done ?_
      replace hA : St 38 [(0, _), (3, _), (4, _), (5, _)] a := hA.sub ((.cons rfl (.cons rfl (.cons rfl (.cons rfl .nil)))))
      refine Ends.inBlock ?_
      refine Ends.region ?_
      refine S.val hA (R.move rfl) rfl ?_; clear hA a; intro a hA
      refine S.val hA ((R.addI rfl rfl (r := ((UInt8.ofNat (48 + M % 10) :: Z).length : Int)) (by rw [List.length_cons]; omega) (by rw [List.length_cons]; omega))) rfl ?_; clear hA a; intro a hA
      refine S.val hA (R.assign rfl) rfl ?_; clear hA a; intro a hA
      refine S.done ?_
      replace hA : St 38 [(0, _), (3, _), (4, _), (5, _)] a := hA.sub ((.cons rfl (.cons rfl (.cons rfl (.cons rfl .nil)))))
      replace hM := hM.nilL
      exact hNext ((M / 10, UInt8.ofNat (48 + M % 10) :: Z)) _ _ ((by show M / 10 < M; omega)) ⟨hA.sub ((.cons rfl (.cons rfl (.cons rfl (.cons rfl .nil))))), hM, (dd_next hS hs1), (by omega)⟩
theorem rwrite_any (n : Int) (h : -9223372036854775808 ≤ n ∧ n ≤ 9223372036854775807) (w : World) : Calls Tryd.prog 30 #[.int .i64 n] w fun e w' => e = .returned (.string ⟨(Lib.itoa n).toArray⟩) ∧ Below w.heap.size w w' := by
  rcases (show n = 0 ∨ 0 < n ∨ n < 0 by omega) with h0 | h0 | h0
  · exact rwrite_0 n h0 w
  · exact rwrite_p n n.toNat (by omega) (by omega) h w
  · exact rwrite_n n (-n).toNat (by omega) (by omega) h w
end Go.Proofs.YtakfcekfmdjklaaDoor
