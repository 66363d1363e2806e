/-
  The contracts of package digit and of kurganref03.Read; the laws DigitKinds and DigitReads.
-/
import Derived.Test.YtakfcekfmdjklaaDoorShelf
import Derived.Test.YtakfcekfmdjklaaDoorTy
import Derived.Test.YtakfcekfmdjklaaDoorDig
import Derived.Test.YtakfcekfmdjklaaDoorTabR
namespace Go.Proofs.YtakfcekfmdjklaaDoor
open Go.RowKit
theorem ba_nil {d : ByteArray} (h : d.size = 0) : d = ⟨#[]⟩ := by
  obtain ⟨l⟩ := d
  have : l.size = 0 := h
  rw [Array.size_eq_zero_iff.1 this]
theorem i32_wrap {x : Int} (h : -2147483648 ≤ x ∧ x ≤ 2147483647) : IntKind.i32.wrap x = x := by rw [IntKind.wrap_i32]; omega
theorem u8_wrap {x : Int} (h : 0 ≤ x ∧ x ≤ 255) : IntKind.u8.wrap x = x := by rw [IntKind.wrap_u8]; omega
theorem i64_wrap {x : Int} (h : -9223372036854775808 ≤ x ∧ x ≤ 9223372036854775807) : IntKind.i64.wrap x = x := by rw [IntKind.wrap_i64]; omega

set_option maxRecDepth 100000 in
set_option maxHeartbeats 400000 in
theorem kind_any (r : Int) (w : World) :
    Calls Tryd.prog 86 #[.int .i32 r] w fun e w' => e = .returned (.int .i64 (kindI r)) ∧ Below w.heap.size w w' := by
  have hM := Mem.start w
  refine Calls.of_ends (vs := [.int .i32 r]) Tryd.func86 rfl Tryd.ntmps86 rfl ?_
  intro a hA
  replace hA : St 35 [(0, _)] a := hA
  refine Ends.seq ?_
  refine Ends.region ?_
  refine S.val hA (R.assign rfl) rfl ?_; clear hA a; intro a hA
  refine S.done ?_
  replace hA : St 35 [(0, _)] a := hA.sub ((.cons rfl .nil))
  refine Ends.seq ?_
  refine Ends.block ?_
  refine Ends.seq ?_
  refine Ends.seq ?_
  refine Ends.region ?_
  refine S.val hA (R.move rfl) rfl ?_; clear hA a; intro a hA
  refine S.val hA (R.eql rfl rfl) rfl ?_; clear hA a; intro a hA
  refine S.val hA (R.assign rfl) rfl ?_; clear hA a; intro a hA
  refine S.done ?_
  replace hA : St 35 [(0, _), (3, _)] a := hA.sub ((.cons rfl (.cons rfl .nil)))
  refine Ends.ite hA rfl (fun hc1 => ?_) (fun hc1 => ?_)
  ·
    rw [decide_eq_true hc1] at hA
    refine Ends.skip ?_
    refine Ends.condT hA rfl ?_
    refine Ends.seq ?_
    refine Ends.region ?_
    refine S.val hA (R.assign rfl) rfl ?_; clear hA a; intro a hA
    refine S.done ?_
    replace hA : St 35 [(2, _)] a := hA.sub ((.cons rfl .nil))
    refine Ends.ret1 Tryd.func86 Tryd.results86 hA rfl ?_
    have e0 : (1 : Int) = kindI r := by
      unfold kindI
      repeat' split
      all_goals first | rfl | omega
    exact ⟨congrArg (fun z => Ending.returned (Value.int .i64 z)) e0, hM.nilL.below⟩
  ·
    rw [decide_eq_false hc1] at hA
    refine Ends.seq ?_
    refine Ends.region ?_
    refine S.val hA (R.move rfl) rfl ?_; clear hA a; intro a hA
    refine S.val hA (R.eql rfl rfl) rfl ?_; clear hA a; intro a hA
    refine S.val hA (R.assign rfl) rfl ?_; clear hA a; intro a hA
    refine S.done ?_
    replace hA : St 35 [(0, _), (3, _)] a := hA.sub ((.cons rfl (.cons rfl .nil)))
    refine Ends.ite hA rfl (fun hc2 => ?_) (fun hc2 => ?_)
    ·
      rw [decide_eq_true hc2] at hA
      refine Ends.skip ?_
      refine Ends.condT hA rfl ?_
      refine Ends.seq ?_
      refine Ends.region ?_
      refine S.val hA (R.assign rfl) rfl ?_; clear hA a; intro a hA
      refine S.done ?_
      replace hA : St 35 [(2, _)] a := hA.sub ((.cons rfl .nil))
      refine Ends.ret1 Tryd.func86 Tryd.results86 hA rfl ?_
      have e0 : (1 : Int) = kindI r := by
        unfold kindI
        repeat' split
        all_goals first | rfl | omega
      exact ⟨congrArg (fun z => Ending.returned (Value.int .i64 z)) e0, hM.nilL.below⟩
    ·
      rw [decide_eq_false hc2] at hA
      refine Ends.seq ?_
      refine Ends.region ?_
      refine S.val hA (R.move rfl) rfl ?_; clear hA a; intro a hA
      refine S.val hA (R.eql rfl rfl) rfl ?_; clear hA a; intro a hA
      refine S.val hA (R.assign rfl) rfl ?_; clear hA a; intro a hA
      refine S.done ?_
      replace hA : St 35 [(0, _), (3, _)] a := hA.sub ((.cons rfl (.cons rfl .nil)))
      refine Ends.ite hA rfl (fun hc3 => ?_) (fun hc3 => ?_)
      ·
        rw [decide_eq_true hc3] at hA
        refine Ends.skip ?_
        refine Ends.condT hA rfl ?_
        refine Ends.seq ?_
        refine Ends.region ?_
        refine S.val hA (R.assign rfl) rfl ?_; clear hA a; intro a hA
        refine S.done ?_
        replace hA : St 35 [(2, _)] a := hA.sub ((.cons rfl .nil))
        refine Ends.ret1 Tryd.func86 Tryd.results86 hA rfl ?_
        have e0 : (1 : Int) = kindI r := by
          unfold kindI
          repeat' split
          all_goals first | rfl | omega
        exact ⟨congrArg (fun z => Ending.returned (Value.int .i64 z)) e0, hM.nilL.below⟩
      ·
        rw [decide_eq_false hc3] at hA
        refine Ends.region ?_
        refine S.val hA (R.move rfl) rfl ?_; clear hA a; intro a hA
        refine S.val hA (R.eql rfl rfl) rfl ?_; clear hA a; intro a hA
        refine S.val hA (R.assign rfl) rfl ?_; clear hA a; intro a hA
        refine S.done ?_
        replace hA : St 35 [(0, _), (3, _)] a := hA.sub ((.cons rfl (.cons rfl .nil)))
        refine Ends.ite hA rfl (fun hc4 => ?_) (fun hc4 => ?_)
        ·
          rw [decide_eq_true hc4] at hA
          refine Ends.seq ?_
          refine Ends.region ?_
          refine S.val hA (R.assign rfl) rfl ?_; clear hA a; intro a hA
          refine S.done ?_
          replace hA : St 35 [(2, _)] a := hA.sub ((.cons rfl .nil))
          refine Ends.ret1 Tryd.func86 Tryd.results86 hA rfl ?_
          have e0 : (1 : Int) = kindI r := by
            unfold kindI
            repeat' split
            all_goals first | rfl | omega
          exact ⟨congrArg (fun z => Ending.returned (Value.int .i64 z)) e0, hM.nilL.below⟩
        ·
          rw [decide_eq_false hc4] at hA
          refine Ends.seq ?_
          refine Ends.cut (fun (a : Act) (wv : World) => St 35 [(0, .int .i32 r), (12, .bool (decide ((48 ≤ r ∧ r ≤ 57))))] a ∧ Mem w nof [] wv) ?_ (fun k2 hJ => ?_)
          · clear hA hM a; rintro a w1 ⟨hA, hM⟩
            refine Ends.ite hA rfl (fun hc5 => ?_) (fun hc5 => ?_)
            ·
              rw [decide_eq_true hc5] at hA
              refine Ends.seq ?_
              refine Ends.region ?_
              refine S.val hA (R.assign rfl) rfl ?_; clear hA a; intro a hA
              refine S.done ?_
              replace hA : St 35 [(2, _)] a := hA.sub ((.cons rfl .nil))
              refine Ends.ret1 Tryd.func86 Tryd.results86 hA rfl ?_
              have e0 : (2 : Int) = kindI r := by
                unfold kindI
                repeat' split
                all_goals first | rfl | omega
              exact ⟨congrArg (fun z => Ending.returned (Value.int .i64 z)) e0, hM.nilL.below⟩
            ·
              rw [decide_eq_false hc5] at hA
              refine Ends.seq ?_
              refine Ends.seq ?_
              refine Ends.cut (fun (a : Act) (wv : World) => St 35 [(0, .int .i32 r), (19, .bool (decide ((65 ≤ r ∧ r ≤ 90))))] a ∧ Mem w nof [] wv) ?_ (fun k2 hJ => ?_)
              · clear hA hM a; rintro a w2 ⟨hA, hM⟩
                refine Ends.ite hA rfl (fun hc6 => ?_) (fun hc6 => ?_)
                ·
                  rw [decide_eq_true hc6] at hA
                  refine Ends.skip ?_
                  refine Ends.condT hA rfl ?_
                  refine Ends.seq ?_
                  refine Ends.region ?_
                  refine S.val hA (R.assign rfl) rfl ?_; clear hA a; intro a hA
                  refine S.done ?_
                  replace hA : St 35 [(2, _)] a := hA.sub ((.cons rfl .nil))
                  refine Ends.ret1 Tryd.func86 Tryd.results86 hA rfl ?_
                  have e0 : (3 : Int) = kindI r := by
                    unfold kindI
                    repeat' split
                    all_goals first | rfl | omega
                  exact ⟨congrArg (fun z => Ending.returned (Value.int .i64 z)) e0, hM.nilL.below⟩
                ·
                  rw [decide_eq_false hc6] at hA
                  refine Ends.cut (fun (a : Act) (wv : World) => St 35 [(0, .int .i32 r), (19, .bool (decide ((97 ≤ r ∧ r ≤ 122))))] a ∧ Mem w nof [] wv) ?_ (fun k2 hJ => ?_)
                  · clear hA hM a; rintro a w3 ⟨hA, hM⟩
                    refine Ends.ite hA rfl (fun hc7 => ?_) (fun hc7 => ?_)
                    ·
                      rw [decide_eq_true hc7] at hA
                      refine Ends.seq ?_
                      refine Ends.region ?_
                      refine S.val hA (R.assign rfl) rfl ?_; clear hA a; intro a hA
                      refine S.done ?_
                      replace hA : St 35 [(2, _)] a := hA.sub ((.cons rfl .nil))
                      refine Ends.ret1 Tryd.func86 Tryd.results86 hA rfl ?_
                      have e0 : (3 : Int) = kindI r := by
                        unfold kindI
                        repeat' split
                        all_goals first | rfl | omega
                      exact ⟨congrArg (fun z => Ending.returned (Value.int .i64 z)) e0, hM.nilL.below⟩
                    ·
                      rw [decide_eq_false hc7] at hA
                      refine Ends.seq ?_
                      refine Ends.region ?_
                      refine S.val hA (R.move rfl) rfl ?_; clear hA a; intro a hA
                      refine S.val hA (R.eql rfl rfl) rfl ?_; clear hA a; intro a hA
                      refine S.val hA (R.assign rfl) rfl ?_; clear hA a; intro a hA
                      refine S.done ?_
                      replace hA : St 35 [(32, _)] a := hA.sub ((.cons rfl .nil))
                      refine Ends.ite hA rfl (fun hc8 => ?_) (fun hc8 => ?_)
                      ·
                        rw [decide_eq_true hc8] at hA
                        refine Ends.seq ?_
                        refine Ends.region ?_
                        refine S.val hA (R.assign rfl) rfl ?_; clear hA a; intro a hA
                        refine S.done ?_
                        replace hA : St 35 [(2, _)] a := hA.sub ((.cons rfl .nil))
                        refine Ends.ret1 Tryd.func86 Tryd.results86 hA rfl ?_
                        have e0 : (4 : Int) = kindI r := by
                          unfold kindI
                          repeat' split
                          all_goals first | rfl | omega
                        exact ⟨congrArg (fun z => Ending.returned (Value.int .i64 z)) e0, hM.nilL.below⟩
                      ·
                        rw [decide_eq_false hc8] at hA
                        refine Ends.skip ?_
                        refine Ends.inBlock ?_
                        refine Ends.seq ?_
                        refine Ends.region ?_
                        refine S.val hA (R.assign rfl) rfl ?_; clear hA a; intro a hA
                        refine S.done ?_
                        replace hA : St 35 [(2, _)] a := hA.sub ((.cons rfl .nil))
                        refine Ends.ret1 Tryd.func86 Tryd.results86 hA rfl ?_
                        have e0 : (0 : Int) = kindI r := by
                          unfold kindI
                          repeat' split
                          all_goals first | rfl | omega
                        exact ⟨congrArg (fun z => Ending.returned (Value.int .i64 z)) e0, hM.nilL.below⟩
                  ·
                    refine Ends.region ?_
                    refine S.val hA (R.move rfl) rfl ?_; clear hA a; intro a hA
                    refine S.val hA (R.geq rfl rfl) rfl ?_; clear hA a; intro a hA
                    refine S.val hA (R.move rfl) rfl ?_; clear hA a; intro a hA
                    refine hA.split (d := 28) rfl ?_ ?_
                    · clear hA; intro hg9 hA
                      refine S.valg (dj := 28) hA (by kernel_rfl) rfl (R.move rfl) rfl ?_; clear hA a; intro a hA
                      refine S.valg (dj := 28) hA (by kernel_rfl) rfl (R.leq rfl rfl) rfl ?_; clear hA a; intro a hA
                      refine S.val hA (R.pickT rfl rfl) rfl ?_; clear hA a; intro a hA
                      refine S.val hA (R.assign rfl) rfl ?_; clear hA a; intro a hA
                      refine S.done ?_
                      replace hA : St 35 [(0, _), (19, _)] a := hA.sub ((.cons rfl (.cons rfl .nil)))
                      exact hJ _ _ ⟨hA.sub (.cons rfl (.cons (by first | rfl | exact congrArg (fun b => some (Value.bool b)) (by first | (simp; done) | simp [hg9])) .nil)), hM⟩
                    · clear hA; intro hg9 hA
                      refine S.no (dj := 28) hA (by kernel_rfl) rfl rfl rfl ?_; clear hA a; intro a hA
                      refine S.no (dj := 28) hA (by kernel_rfl) rfl rfl rfl ?_; clear hA a; intro a hA
                      refine S.val hA (R.pickF rfl rfl) rfl ?_; clear hA a; intro a hA
                      refine S.val hA (R.assign rfl) rfl ?_; clear hA a; intro a hA
                      refine S.done ?_
                      replace hA : St 35 [(0, _), (19, _)] a := hA.sub ((.cons rfl (.cons rfl .nil)))
                      exact hJ _ _ ⟨hA.sub (.cons rfl (.cons (by first | rfl | exact congrArg (fun b => some (Value.bool b)) (by first | (simp; done) | simp [hg9])) .nil)), hM⟩
              ·
                refine Ends.region ?_
                refine S.val hA (R.move rfl) rfl ?_; clear hA a; intro a hA
                refine S.val hA (R.geq rfl rfl) rfl ?_; clear hA a; intro a hA
                refine S.val hA (R.move rfl) rfl ?_; clear hA a; intro a hA
                refine hA.split (d := 22) rfl ?_ ?_
                · clear hA; intro hg10 hA
                  refine S.valg (dj := 22) hA (by kernel_rfl) rfl (R.move rfl) rfl ?_; clear hA a; intro a hA
                  refine S.valg (dj := 22) hA (by kernel_rfl) rfl (R.leq rfl rfl) rfl ?_; clear hA a; intro a hA
                  refine S.val hA (R.pickT rfl rfl) rfl ?_; clear hA a; intro a hA
                  refine S.val hA (R.assign rfl) rfl ?_; clear hA a; intro a hA
                  refine S.done ?_
                  replace hA : St 35 [(0, _), (19, _)] a := hA.sub ((.cons rfl (.cons rfl .nil)))
                  exact hJ _ _ ⟨hA.sub (.cons rfl (.cons (by first | rfl | exact congrArg (fun b => some (Value.bool b)) (by first | (simp; done) | simp [hg10])) .nil)), hM⟩
                · clear hA; intro hg10 hA
                  refine S.no (dj := 22) hA (by kernel_rfl) rfl rfl rfl ?_; clear hA a; intro a hA
                  refine S.no (dj := 22) hA (by kernel_rfl) rfl rfl rfl ?_; clear hA a; intro a hA
                  refine S.val hA (R.pickF rfl rfl) rfl ?_; clear hA a; intro a hA
                  refine S.val hA (R.assign rfl) rfl ?_; clear hA a; intro a hA
                  refine S.done ?_
                  replace hA : St 35 [(0, _), (19, _)] a := hA.sub ((.cons rfl (.cons rfl .nil)))
                  exact hJ _ _ ⟨hA.sub (.cons rfl (.cons (by first | rfl | exact congrArg (fun b => some (Value.bool b)) (by first | (simp; done) | simp [hg10])) .nil)), hM⟩
          ·
            refine Ends.region ?_
            refine S.val hA (R.move rfl) rfl ?_; clear hA a; intro a hA
            refine S.val hA (R.geq rfl rfl) rfl ?_; clear hA a; intro a hA
            refine S.val hA (R.move rfl) rfl ?_; clear hA a; intro a hA
            refine hA.split (d := 15) rfl ?_ ?_
            · clear hA; intro hg11 hA
              refine S.valg (dj := 15) hA (by kernel_rfl) rfl (R.move rfl) rfl ?_; clear hA a; intro a hA
              refine S.valg (dj := 15) hA (by kernel_rfl) rfl (R.leq rfl rfl) rfl ?_; clear hA a; intro a hA
              refine S.val hA (R.pickT rfl rfl) rfl ?_; clear hA a; intro a hA
              refine S.val hA (R.assign rfl) rfl ?_; clear hA a; intro a hA
              refine S.done ?_
              replace hA : St 35 [(0, _), (12, _)] a := hA.sub ((.cons rfl (.cons rfl .nil)))
              exact hJ _ _ ⟨hA.sub (.cons rfl (.cons (by first | rfl | exact congrArg (fun b => some (Value.bool b)) (by first | (simp; done) | simp [hg11])) .nil)), hM⟩
            · clear hA; intro hg11 hA
              refine S.no (dj := 15) hA (by kernel_rfl) rfl rfl rfl ?_; clear hA a; intro a hA
              refine S.no (dj := 15) hA (by kernel_rfl) rfl rfl rfl ?_; clear hA a; intro a hA
              refine S.val hA (R.pickF rfl rfl) rfl ?_; clear hA a; intro a hA
              refine S.val hA (R.assign rfl) rfl ?_; clear hA a; intro a hA
              refine S.done ?_
              replace hA : St 35 [(0, _), (12, _)] a := hA.sub ((.cons rfl (.cons rfl .nil)))
              exact hJ _ _ ⟨hA.sub (.cons rfl (.cons (by first | rfl | exact congrArg (fun b => some (Value.bool b)) (by first | (simp; done) | simp [hg11])) .nil)), hM⟩
set_option maxRecDepth 100000 in
set_option maxHeartbeats 400000 in
theorem run_any (s : ByteArray) (w : World) :
    Calls Tryd.prog 94 #[.string s] w fun e w' => e = .returned (.int .i64 (dgs s 0 : Int)) ∧ Below w.heap.size w w' := by
  have hM := Mem.start w
  refine Calls.of_ends (vs := [.string s]) Tryd.func94 rfl Tryd.ntmps94 rfl ?_
  intro a hA
  replace hA : St 17 [(0, _)] a := hA
  refine Ends.seq ?_
  refine Ends.region ?_
  refine S.val hA (R.assign rfl) rfl ?_; clear hA a; intro a hA
  refine S.done ?_
  replace hA : St 17 [(0, _)] a := hA.sub ((.cons rfl .nil))
  refine Ends.seq ?_
  refine Ends.seq ?_
  refine Ends.region ?_
  refine S.val hA (R.move rfl) rfl ?_; clear hA a; intro a hA
  refine S.rangeS hA hM Tryd.underlying9 rfl rfl ?_; clear hA hM a; intro b1 w1 hb2 hM a hA
  replace hM : Mem _ _ [itC b1 s 0] _ := hM
  refine S.done ?_
  replace hA : St 17 [(0, _), (6, _)] a := hA.sub ((.cons rfl (.cons rfl .nil)))
  refine Ends.block ?_
  refine Ends.loop (σ := Nat) (fun p (a : Act) (wv : World) => St 17 [(0, .string s), (6, .pointer (some ⟨b1, 0, none⟩))] a ∧ Mem w nof [itC b1 s p] wv ∧ (p ≤ s.size) ∧ (∀ j, j < p → dig s j)) (fun p => s.size - p) 0 ⟨hA.sub ((.cons rfl (.cons rfl .nil))), hM, (Nat.zero_le _), (fun j hj => absurd hj (Nat.not_lt_zero j))⟩ ?_
  clear hA hM a
  rintro p a w2 ⟨hA, hM, hp, hd⟩ hNext
  refine Ends.seq ?_
  refine Ends.region ?_
  by_cases hp3 : p < s.size
  ·
    refine S.nextT (k := 0) hA hM rfl rfl hp3 rfl ?_; clear hA hM a; intro w3 hM a hA
    replace hM : Mem _ _ [itC b1 s ((p + (Utf8.decode s p).2))] _ := hM
    refine S.val hA (R.extract (v := .bool true) rfl rfl) rfl ?_; clear hA a; intro a hA
    refine S.done ?_
    replace hA : St 17 [(0, _), (6, _), (7, _), (8, _)] a := hA.sub ((.cons rfl (.cons rfl (.cons rfl (.cons rfl .nil)))))
    refine Ends.seq ?_
    refine Ends.condT hA rfl ?_
    refine Ends.skip ?_
    refine Ends.block ?_
    refine Ends.seq ?_
    refine Ends.region ?_
    refine S.val hA (R.extract (v := .int .i64 ((p : Int))) rfl rfl) rfl ?_; clear hA a; intro a hA
    refine S.val hA (R.extract (v := .int .i32 (((Utf8.decode s p).1 : Int))) rfl rfl) rfl ?_; clear hA a; intro a hA
    refine S.val hA (R.assign rfl) rfl ?_; clear hA a; intro a hA
    refine S.val hA (R.assign rfl) rfl ?_; clear hA a; intro a hA
    refine S.done ?_
    replace hA : St 17 [(0, _), (3, _), (4, _), (6, _)] a := hA.sub ((.cons rfl (.cons rfl (.cons rfl (.cons rfl .nil)))))
    refine Ends.seq ?_
    refine Ends.region ?_
    refine S.val hA (R.move rfl) rfl ?_; clear hA a; intro a hA
    refine S.call hA (R.callF Tryd.func86 rfl rfl rfl) rfl (kind_any (((Utf8.decode s p).1 : Int)) _) ?_; clear hA a
    rintro e w4 ⟨rfl, hb⟩
    replace hM := hM.callB hb; clear hb
    refine ⟨.int .i64 (kindI (((Utf8.decode s p).1 : Int))), rfl, fun a hA => ?_⟩
    refine S.val hA (R.neq rfl rfl) rfl ?_; clear hA a; intro a hA
    refine S.done ?_
    replace hA : St 17 [(0, _), (3, _), (6, _), (13, _)] a := hA.sub ((.cons rfl (.cons rfl (.cons rfl (.cons rfl .nil)))))
    refine Ends.ite hA rfl (fun hc4 => ?_) (fun hc4 => ?_)
    ·
      refine Ends.seq ?_
      refine Ends.region ?_
      refine S.val hA (R.move rfl) rfl ?_; clear hA a; intro a hA
      refine S.val hA (R.assign rfl) rfl ?_; clear hA a; intro a hA
      refine S.done ?_
      replace hA : St 17 [(0, _), (2, _), (6, _)] a := hA.sub ((.cons rfl (.cons rfl (.cons rfl .nil))))
      refine Ends.ret1 Tryd.func94 Tryd.results94 hA rfl ?_
      have e0 : dgs s 0 = p := by
        skip
        exact dgs_uniq (fun j hj => by rw [Nat.zero_add]; exact hd j hj) (by rw [Nat.zero_add]; exact (fun h => hc4 ((dec_dig hp3).1.2 h)))
      rw [e0]
      exact ⟨rfl, hM.nilL.below⟩
    ·
      refine Ends.skip ?_
      refine Ends.inBlock ?_
      have hdg := (dec_dig hp3).1.1 (Classical.byContradiction hc4)
      rw [((dec_dig hp3).2 hdg).1] at hM
      exact hNext ((p + 1)) _ _ ((by show s.size - (p + 1) < s.size - p; omega)) ⟨hA.sub ((.cons rfl (.cons rfl .nil))), hM, (by omega), (fun j hj => by rcases Nat.lt_or_ge j p with q | q; exact hd j q; have e : j = p := (by omega); exact e ▸ hdg)⟩
  ·
    refine S.val hA (R.nextF (k := 0) hM rfl rfl hp3) rfl ?_; clear hA a; intro a hA
    refine S.val hA (R.extract (v := .bool false) rfl rfl) rfl ?_; clear hA a; intro a hA
    refine S.done ?_
    replace hA : St 17 [(0, _), (6, _), (7, _), (8, _)] a := hA.sub ((.cons rfl (.cons rfl (.cons rfl (.cons rfl .nil)))))
    refine Ends.seq ?_
    refine Ends.condF hA rfl ?_
    refine Ends.exit rfl ?_
    replace hA : St 17 [(0, _)] a := hA.sub ((.cons rfl .nil))
    refine Ends.seq ?_
    refine Ends.region ?_
    refine S.val hA (R.move rfl) rfl ?_; clear hA a; intro a hA
    refine S.val hA (R.lenStr Tryd.underlying9 rfl rfl) rfl ?_; clear hA a; intro a hA
    refine S.val hA (R.assign rfl) rfl ?_; clear hA a; intro a hA
    refine S.done ?_
    replace hA : St 17 [(2, _)] a := hA.sub ((.cons rfl .nil))
    refine Ends.ret1 Tryd.func94 Tryd.results94 hA rfl ?_
    have hpe : p = s.size := by omega
    have e0 : dgs s 0 = s.size := by
      rw [← hpe]
      exact dgs_uniq (fun j hj => by rw [Nat.zero_add]; exact hd j hj) (by rw [Nat.zero_add]; exact (fun h => absurd h.1 (by omega)))
    rw [e0]
    exact ⟨rfl, hM.nilL.below⟩
theorem run_at (s : ByteArray) (x : Nat) (w : World) : Calls Tryd.prog 94 #[.string (s.extract x s.size)] w fun e w' => e = .returned (.int .i64 (dgs s x : Int)) ∧ Below w.heap.size w w' := by
  have h := run_any (s.extract x s.size) w
  rwa [dgs_ext] at h
set_option maxRecDepth 100000 in
set_option maxHeartbeats 400000 in
theorem read_out (s : ByteArray) (p : Int) (h : p < 0 ∨ (s.size : Int) < p) (w : World) :
    Calls Tryd.prog 88 #[.string s, .int .i64 p] w fun e w' => e = .returned (.tuple #[.int .i64 (0), .int .i64 (0), .int .i64 (1)]) ∧ Below w.heap.size w w' := by
  have hM := Mem.start w
  refine Calls.of_ends (vs := [.string s, .int .i64 p]) Tryd.func88 rfl Tryd.ntmps88 rfl ?_
  intro a hA
  replace hA : St 58 [(0, _), (1, _)] a := hA
  refine Ends.seq ?_
  refine Ends.region ?_
  refine S.val hA (R.assign rfl) rfl ?_; clear hA a; intro a hA
  refine S.val hA (R.assign rfl) rfl ?_; clear hA a; intro a hA
  refine S.val hA (R.assign rfl) rfl ?_; clear hA a; intro a hA
  refine S.done ?_
  replace hA : St 58 [(0, _), (1, _), (4, _)] a := hA.sub ((.cons rfl (.cons rfl (.cons rfl .nil))))
  refine Ends.seq ?_
  refine Ends.seq ?_
  refine Ends.cut (fun (a : Act) (wv : World) => St 58 [(0, .string s), (1, .int .i64 p), (4, .int .i64 0), (17, .bool (decide ((p < 0 ∨ ((s.size : Int)) < p))))] a ∧ Mem w nof [] wv) ?_ (fun k2 hJ => ?_)
  · clear hA hM a; rintro a w1 ⟨hA, hM⟩
    refine Ends.ite hA rfl (fun hc1 => ?_) (fun hc1 => ?_)
    ·
      refine Ends.seq ?_
      refine Ends.region ?_
      refine S.val hA (R.assign rfl) rfl ?_; clear hA a; intro a hA
      refine S.val hA (R.assign rfl) rfl ?_; clear hA a; intro a hA
      refine S.val hA (R.assign rfl) rfl ?_; clear hA a; intro a hA
      refine S.done ?_
      replace hA : St 58 [(0, _), (1, _), (4, _), (5, _), (6, _)] a := hA.sub ((.cons rfl (.cons rfl (.cons rfl (.cons rfl (.cons rfl .nil))))))
      refine Ends.ret3 Tryd.func88 Tryd.results88 hA rfl rfl rfl ?_
      exact ⟨rfl, hM.nilL.below⟩
    · exfalso; omega
  ·
    refine Ends.region ?_
    refine S.val hA (R.move rfl) rfl ?_; clear hA a; intro a hA
    refine S.val hA (R.lss rfl rfl) rfl ?_; clear hA a; intro a hA
    refine S.val hA (R.move rfl) rfl ?_; clear hA a; intro a hA
    refine hA.split (d := 12) rfl ?_ ?_
    · clear hA; intro hg2 hA
      refine S.no (dj := 12) hA (by kernel_rfl) rfl rfl rfl ?_; clear hA a; intro a hA
      refine S.no (dj := 12) hA (by kernel_rfl) rfl rfl rfl ?_; clear hA a; intro a hA
      refine S.no (dj := 12) hA (by kernel_rfl) rfl rfl rfl ?_; clear hA a; intro a hA
      refine S.no (dj := 12) hA (by kernel_rfl) rfl rfl rfl ?_; clear hA a; intro a hA
      refine S.val hA (R.pickT rfl rfl) rfl ?_; clear hA a; intro a hA
      refine S.done ?_
      replace hA : St 58 [(0, _), (1, _), (4, _), (17, _)] a := hA.sub ((.cons rfl (.cons rfl (.cons rfl (.cons rfl .nil)))))
      exact hJ _ _ ⟨hA.sub (.cons rfl (.cons rfl (.cons rfl (.cons (by first | rfl | exact congrArg (fun b => some (Value.bool b)) (by first | (simp; done) | simp [hg2])) .nil)))), hM⟩
    · clear hA; intro hg2 hA
      refine S.valg (dj := 12) hA (by kernel_rfl) rfl (R.move rfl) rfl ?_; clear hA a; intro a hA
      refine S.valg (dj := 12) hA (by kernel_rfl) rfl (R.move rfl) rfl ?_; clear hA a; intro a hA
      refine S.valg (dj := 12) hA (by kernel_rfl) rfl (R.lenStr Tryd.underlying9 rfl rfl) rfl ?_; clear hA a; intro a hA
      refine S.valg (dj := 12) hA (by kernel_rfl) rfl (R.gtr rfl rfl) rfl ?_; clear hA a; intro a hA
      refine S.val hA (R.pickF rfl rfl) rfl ?_; clear hA a; intro a hA
      refine S.done ?_
      replace hA : St 58 [(0, _), (1, _), (4, _), (17, _)] a := hA.sub ((.cons rfl (.cons rfl (.cons rfl (.cons rfl .nil)))))
      exact hJ _ _ ⟨hA.sub (.cons rfl (.cons rfl (.cons rfl (.cons (by first | rfl | exact congrArg (fun b => some (Value.bool b)) (by first | (simp; done) | simp [hg2])) .nil)))), hM⟩
set_option maxRecDepth 100000 in
set_option maxHeartbeats 400000 in
theorem read_none (s : ByteArray) (x k : Nat) (hx : x ≤ s.size) (hk : dgs s x = k) (hsz : s.size ≤ 9223372036854775807) (h : k = 0) (w : World) :
    Calls Tryd.prog 88 #[.string s, .int .i64 ((x : Int))] w fun e w' => e = .returned (.tuple #[.int .i64 (0), .int .i64 (0), .int .i64 (4)]) ∧ Below w.heap.size w w' := by
  have hM := Mem.start w
  refine Calls.of_ends (vs := [.string s, .int .i64 ((x : Int))]) Tryd.func88 rfl Tryd.ntmps88 rfl ?_
  intro a hA
  replace hA : St 58 [(0, _), (1, _)] a := hA
  refine Ends.seq ?_
  refine Ends.region ?_
  refine S.val hA (R.assign rfl) rfl ?_; clear hA a; intro a hA
  refine S.val hA (R.assign rfl) rfl ?_; clear hA a; intro a hA
  refine S.val hA (R.assign rfl) rfl ?_; clear hA a; intro a hA
  refine S.done ?_
  replace hA : St 58 [(0, _), (1, _), (4, _)] a := hA.sub ((.cons rfl (.cons rfl (.cons rfl .nil))))
  refine Ends.seq ?_
  refine Ends.seq ?_
  refine Ends.region ?_
  refine S.val hA (R.move rfl) rfl ?_; clear hA a; intro a hA
  refine S.val hA (R.ff (R.lss rfl rfl) (by omega)) rfl ?_; clear hA a; intro a hA
  refine S.val hA (R.move rfl) rfl ?_; clear hA a; intro a hA
  refine S.valg (dj := 12) hA (by kernel_rfl) rfl (R.move rfl) rfl ?_; clear hA a; intro a hA
  refine S.valg (dj := 12) hA (by kernel_rfl) rfl (R.move rfl) rfl ?_; clear hA a; intro a hA
  refine S.valg (dj := 12) hA (by kernel_rfl) rfl (R.lenStr Tryd.underlying9 rfl rfl) rfl ?_; clear hA a; intro a hA
  refine S.valg (dj := 12) hA (by kernel_rfl) rfl (R.ff (R.gtr rfl rfl) (by omega)) rfl ?_; clear hA a; intro a hA
  refine S.val hA (R.pickF rfl rfl) rfl ?_; clear hA a; intro a hA
  refine S.done ?_
  replace hA : St 58 [(0, _), (1, _), (4, _), (17, _)] a := hA.sub ((.cons rfl (.cons rfl (.cons rfl (.cons rfl .nil)))))
  refine Ends.condF hA rfl ?_
  refine Ends.skip ?_
  refine Ends.seq ?_
  refine Ends.region ?_
  refine S.val hA (R.move rfl) rfl ?_; clear hA a; intro a hA
  refine S.val hA (R.move rfl) rfl ?_; clear hA a; intro a hA
  refine S.val hA (R.to (v := .string ((s.extract x s.size))) (R.sliceSL Tryd.underlying9 rfl rfl (by omega)) (by first | rfl | (congr 2; done) | (congr 2 <;> omega))) rfl ?_; clear hA a; intro a hA
  refine S.val hA (R.assign rfl) rfl ?_; clear hA a; intro a hA
  refine S.done ?_
  replace hA : St 58 [(1, _), (4, _), (7, _)] a := hA.sub ((.cons rfl (.cons rfl (.cons rfl .nil))))
  refine Ends.seq ?_
  refine Ends.region ?_
  refine S.val hA (R.move rfl) rfl ?_; clear hA a; intro a hA
  refine S.val hA (R.move rfl) rfl ?_; clear hA a; intro a hA
  refine S.call hA (R.callF Tryd.func94 rfl rfl rfl) rfl (run_at s x _) ?_; clear hA a
  rintro e w1 ⟨rfl, hb⟩
  replace hM := hM.callB hb; clear hb
  refine ⟨.int .i64 ((dgs s x : Int)), rfl, fun a hA => ?_⟩
  obtain ⟨d, hd, hdsz, hdb⟩ : ∃ d, (s.extract x s.size).extract 0 (dgs s x) = d ∧ d.size = k ∧ ∀ j, j < k → byt d j = byt s (x + j) := by
    have hle := dgs_le s hx
    rw [hk] at hle ⊢
    have h1 : (s.extract x s.size).size = s.size - x := size_ext (Nat.le_refl _)
    refine ⟨_, rfl, by rw [size_ext (by omega)]; omega, fun j hj => ?_⟩
    rw [byt_ext (by omega) (by omega), Nat.zero_add, byt_ext (by omega) (Nat.le_refl _)]
  have hdg : ∀ j, j < k → dig s (x + j) := fun j hj => (dgs_spec s x).1 j (by omega)
  have hdd : ∀ j, j < k → dig d j := fun j hj => ⟨by omega, by rw [hdb j hj]; exact (hdg j hj).2⟩
  have hle := dgs_le s hx
  rw [hk] at hle
  have h1 : (s.extract x s.size).size = s.size - x := size_ext (Nat.le_refl _)
  refine S.val hA (R.to (v := .string d) (R.sliceSH Tryd.underlying9 rfl rfl (by rw [hk]; omega)) (congrArg Value.string hd)) rfl ?_; clear hA a; intro a hA
  refine S.val hA (R.assign rfl) rfl ?_; clear hA a; intro a hA
  refine S.done ?_
  replace hA : St 58 [(1, _), (4, _), (7, _)] a := hA.sub ((.cons rfl (.cons rfl (.cons rfl .nil))))
  refine Ends.seq ?_
  refine Ends.block ?_
  refine Ends.seq ?_
  refine Ends.region ?_
  refine S.val hA (R.move rfl) rfl ?_; clear hA a; intro a hA
  refine S.val hA (R.tt (R.eqlStr rfl rfl) (ba_nil (by omega))) rfl ?_; clear hA a; intro a hA
  refine S.val hA (R.move rfl) rfl ?_; clear hA a; intro a hA
  refine S.no (dj := 28) hA (by kernel_rfl) rfl rfl rfl ?_; clear hA a; intro a hA
  refine S.no (dj := 28) hA (by kernel_rfl) rfl rfl rfl ?_; clear hA a; intro a hA
  refine S.no (dj := 28) hA (by kernel_rfl) rfl rfl rfl ?_; clear hA a; intro a hA
  refine S.no (dj := 28) hA (by kernel_rfl) rfl rfl rfl ?_; clear hA a; intro a hA
  refine S.noU (dj := 32) hA (by kernel_rfl) rfl rfl ?_; clear hA a; intro a hA
  refine S.noU (dj := 32) hA (by kernel_rfl) rfl rfl ?_; clear hA a; intro a hA
  refine S.noU (dj := 32) hA (by kernel_rfl) rfl rfl ?_; clear hA a; intro a hA
  refine S.no (dj := 28) hA (by kernel_rfl) rfl rfl rfl ?_; clear hA a; intro a hA
  refine S.val hA (R.pickT rfl rfl) rfl ?_; clear hA a; intro a hA
  refine S.val hA (R.assign rfl) rfl ?_; clear hA a; intro a hA
  refine S.done ?_
  replace hA : St 58 [(1, _), (4, _), (7, _), (25, _)] a := hA.sub ((.cons rfl (.cons rfl (.cons rfl (.cons rfl .nil)))))
  refine Ends.condT hA rfl ?_
  refine Ends.seq ?_
  refine Ends.region ?_
  refine S.val hA (R.assign rfl) rfl ?_; clear hA a; intro a hA
  refine S.val hA (R.assign rfl) rfl ?_; clear hA a; intro a hA
  refine S.val hA (R.assign rfl) rfl ?_; clear hA a; intro a hA
  refine S.done ?_
  replace hA : St 58 [(1, _), (4, _), (5, _), (6, _), (7, _)] a := hA.sub ((.cons rfl (.cons rfl (.cons rfl (.cons rfl (.cons rfl .nil))))))
  refine Ends.ret3 Tryd.func88 Tryd.results88 hA rfl rfl rfl ?_
  exact ⟨rfl, hM.nilL.below⟩
set_option maxRecDepth 100000 in
set_option maxHeartbeats 400000 in
theorem read_nul (s : ByteArray) (x k : Nat) (hx : x ≤ s.size) (hk : dgs s x = k) (hsz : s.size ≤ 9223372036854775807) (h : 1 < k) (h0 : byt s x = 48) (w : World) :
    Calls Tryd.prog 88 #[.string s, .int .i64 ((x : Int))] w fun e w' => e = .returned (.tuple #[.int .i64 (0), .int .i64 (0), .int .i64 (4)]) ∧ Below w.heap.size w w' := by
  have hM := Mem.start w
  refine Calls.of_ends (vs := [.string s, .int .i64 ((x : Int))]) Tryd.func88 rfl Tryd.ntmps88 rfl ?_
  intro a hA
  replace hA : St 58 [(0, _), (1, _)] a := hA
  refine Ends.seq ?_
  refine Ends.region ?_
  refine S.val hA (R.assign rfl) rfl ?_; clear hA a; intro a hA
  refine S.val hA (R.assign rfl) rfl ?_; clear hA a; intro a hA
  refine S.val hA (R.assign rfl) rfl ?_; clear hA a; intro a hA
  refine S.done ?_
  replace hA : St 58 [(0, _), (1, _), (4, _)] a := hA.sub ((.cons rfl (.cons rfl (.cons rfl .nil))))
  refine Ends.seq ?_
  refine Ends.seq ?_
  refine Ends.region ?_
  refine S.val hA (R.move rfl) rfl ?_; clear hA a; intro a hA
  refine S.val hA (R.ff (R.lss rfl rfl) (by omega)) rfl ?_; clear hA a; intro a hA
  refine S.val hA (R.move rfl) rfl ?_; clear hA a; intro a hA
  refine S.valg (dj := 12) hA (by kernel_rfl) rfl (R.move rfl) rfl ?_; clear hA a; intro a hA
  refine S.valg (dj := 12) hA (by kernel_rfl) rfl (R.move rfl) rfl ?_; clear hA a; intro a hA
  refine S.valg (dj := 12) hA (by kernel_rfl) rfl (R.lenStr Tryd.underlying9 rfl rfl) rfl ?_; clear hA a; intro a hA
  refine S.valg (dj := 12) hA (by kernel_rfl) rfl (R.ff (R.gtr rfl rfl) (by omega)) rfl ?_; clear hA a; intro a hA
  refine S.val hA (R.pickF rfl rfl) rfl ?_; clear hA a; intro a hA
  refine S.done ?_
  replace hA : St 58 [(0, _), (1, _), (4, _), (17, _)] a := hA.sub ((.cons rfl (.cons rfl (.cons rfl (.cons rfl .nil)))))
  refine Ends.condF hA rfl ?_
  refine Ends.skip ?_
  refine Ends.seq ?_
  refine Ends.region ?_
  refine S.val hA (R.move rfl) rfl ?_; clear hA a; intro a hA
  refine S.val hA (R.move rfl) rfl ?_; clear hA a; intro a hA
  refine S.val hA (R.to (v := .string ((s.extract x s.size))) (R.sliceSL Tryd.underlying9 rfl rfl (by omega)) (by first | rfl | (congr 2; done) | (congr 2 <;> omega))) rfl ?_; clear hA a; intro a hA
  refine S.val hA (R.assign rfl) rfl ?_; clear hA a; intro a hA
  refine S.done ?_
  replace hA : St 58 [(1, _), (4, _), (7, _)] a := hA.sub ((.cons rfl (.cons rfl (.cons rfl .nil))))
  refine Ends.seq ?_
  refine Ends.region ?_
  refine S.val hA (R.move rfl) rfl ?_; clear hA a; intro a hA
  refine S.val hA (R.move rfl) rfl ?_; clear hA a; intro a hA
  refine S.call hA (R.callF Tryd.func94 rfl rfl rfl) rfl (run_at s x _) ?_; clear hA a
  rintro e w1 ⟨rfl, hb⟩
  replace hM := hM.callB hb; clear hb
  refine ⟨.int .i64 ((dgs s x : Int)), rfl, fun a hA => ?_⟩
  obtain ⟨d, hd, hdsz, hdb⟩ : ∃ d, (s.extract x s.size).extract 0 (dgs s x) = d ∧ d.size = k ∧ ∀ j, j < k → byt d j = byt s (x + j) := by
    have hle := dgs_le s hx
    rw [hk] at hle ⊢
    have h1 : (s.extract x s.size).size = s.size - x := size_ext (Nat.le_refl _)
    refine ⟨_, rfl, by rw [size_ext (by omega)]; omega, fun j hj => ?_⟩
    rw [byt_ext (by omega) (by omega), Nat.zero_add, byt_ext (by omega) (Nat.le_refl _)]
  have hdg : ∀ j, j < k → dig s (x + j) := fun j hj => (dgs_spec s x).1 j (by omega)
  have hdd : ∀ j, j < k → dig d j := fun j hj => ⟨by omega, by rw [hdb j hj]; exact (hdg j hj).2⟩
  have hle := dgs_le s hx
  rw [hk] at hle
  have h1 : (s.extract x s.size).size = s.size - x := size_ext (Nat.le_refl _)
  refine S.val hA (R.to (v := .string d) (R.sliceSH Tryd.underlying9 rfl rfl (by rw [hk]; omega)) (congrArg Value.string hd)) rfl ?_; clear hA a; intro a hA
  refine S.val hA (R.assign rfl) rfl ?_; clear hA a; intro a hA
  refine S.done ?_
  replace hA : St 58 [(1, _), (4, _), (7, _)] a := hA.sub ((.cons rfl (.cons rfl (.cons rfl .nil))))
  refine Ends.seq ?_
  refine Ends.block ?_
  refine Ends.seq ?_
  refine Ends.region ?_
  refine S.val hA (R.move rfl) rfl ?_; clear hA a; intro a hA
  refine S.val hA (R.ff (R.eqlStr rfl rfl) (fun h => by rw [h] at hdsz; have h0 : (0 : Nat) = k := hdsz; omega)) rfl ?_; clear hA a; intro a hA
  refine S.val hA (R.move rfl) rfl ?_; clear hA a; intro a hA
  refine S.valg (dj := 28) hA (by kernel_rfl) rfl (R.move rfl) rfl ?_; clear hA a; intro a hA
  refine S.valg (dj := 28) hA (by kernel_rfl) rfl (R.lenStr Tryd.underlying9 rfl rfl) rfl ?_; clear hA a; intro a hA
  refine S.valg (dj := 28) hA (by kernel_rfl) rfl (R.tt (R.gtr rfl rfl) (by omega)) rfl ?_; clear hA a; intro a hA
  refine S.valg (dj := 28) hA (by kernel_rfl) rfl (R.move rfl) rfl ?_; clear hA a; intro a hA
  refine S.valg (dj := 32) hA (by kernel_rfl) rfl (R.move rfl) rfl ?_; clear hA a; intro a hA
  refine S.valg (dj := 32) hA (by kernel_rfl) rfl (R.to (v := .int .u8 (byt d 0)) (R.idxS Tryd.underlying9 rfl rfl (by omega)) (by first | rfl | (congr 2; done) | (congr 2; omega))) rfl ?_; clear hA a; intro a hA
  refine S.valg (dj := 32) hA (by kernel_rfl) rfl (R.tt (R.eql rfl rfl) (by rw [hdb 0 (by omega)]; exact h0)) rfl ?_; clear hA a; intro a hA
  refine S.valg (dj := 28) hA (by kernel_rfl) rfl (R.pickT rfl rfl) rfl ?_; clear hA a; intro a hA
  refine S.val hA (R.pickF rfl rfl) rfl ?_; clear hA a; intro a hA
  refine S.val hA (R.assign rfl) rfl ?_; clear hA a; intro a hA
  refine S.done ?_
  replace hA : St 58 [(1, _), (4, _), (7, _), (25, _)] a := hA.sub ((.cons rfl (.cons rfl (.cons rfl (.cons rfl .nil)))))
  refine Ends.condT hA rfl ?_
  refine Ends.seq ?_
  refine Ends.region ?_
  refine S.val hA (R.assign rfl) rfl ?_; clear hA a; intro a hA
  refine S.val hA (R.assign rfl) rfl ?_; clear hA a; intro a hA
  refine S.val hA (R.assign rfl) rfl ?_; clear hA a; intro a hA
  refine S.done ?_
  replace hA : St 58 [(1, _), (4, _), (5, _), (6, _), (7, _)] a := hA.sub ((.cons rfl (.cons rfl (.cons rfl (.cons rfl (.cons rfl .nil))))))
  refine Ends.ret3 Tryd.func88 Tryd.results88 hA rfl rfl rfl ?_
  exact ⟨rfl, hM.nilL.below⟩
set_option maxRecDepth 100000 in
set_option maxHeartbeats 400000 in
theorem read_big (s : ByteArray) (x k : Nat) (hx : x ≤ s.size) (hk : dgs s x = k) (hsz : s.size ≤ 9223372036854775807) (h : 18 < k) (h0 : byt s x ≠ 48) (w : World) :
    Calls Tryd.prog 88 #[.string s, .int .i64 ((x : Int))] w fun e w' => e = .returned (.tuple #[.int .i64 (0), .int .i64 (0), .int .i64 (5)]) ∧ Below w.heap.size w w' := by
  have hM := Mem.start w
  refine Calls.of_ends (vs := [.string s, .int .i64 ((x : Int))]) Tryd.func88 rfl Tryd.ntmps88 rfl ?_
  intro a hA
  replace hA : St 58 [(0, _), (1, _)] a := hA
  refine Ends.seq ?_
  refine Ends.region ?_
  refine S.val hA (R.assign rfl) rfl ?_; clear hA a; intro a hA
  refine S.val hA (R.assign rfl) rfl ?_; clear hA a; intro a hA
  refine S.val hA (R.assign rfl) rfl ?_; clear hA a; intro a hA
  refine S.done ?_
  replace hA : St 58 [(0, _), (1, _), (4, _)] a := hA.sub ((.cons rfl (.cons rfl (.cons rfl .nil))))
  refine Ends.seq ?_
  refine Ends.seq ?_
  refine Ends.region ?_
  refine S.val hA (R.move rfl) rfl ?_; clear hA a; intro a hA
  refine S.val hA (R.ff (R.lss rfl rfl) (by omega)) rfl ?_; clear hA a; intro a hA
  refine S.val hA (R.move rfl) rfl ?_; clear hA a; intro a hA
  refine S.valg (dj := 12) hA (by kernel_rfl) rfl (R.move rfl) rfl ?_; clear hA a; intro a hA
  refine S.valg (dj := 12) hA (by kernel_rfl) rfl (R.move rfl) rfl ?_; clear hA a; intro a hA
  refine S.valg (dj := 12) hA (by kernel_rfl) rfl (R.lenStr Tryd.underlying9 rfl rfl) rfl ?_; clear hA a; intro a hA
  refine S.valg (dj := 12) hA (by kernel_rfl) rfl (R.ff (R.gtr rfl rfl) (by omega)) rfl ?_; clear hA a; intro a hA
  refine S.val hA (R.pickF rfl rfl) rfl ?_; clear hA a; intro a hA
  refine S.done ?_
  replace hA : St 58 [(0, _), (1, _), (4, _), (17, _)] a := hA.sub ((.cons rfl (.cons rfl (.cons rfl (.cons rfl .nil)))))
  refine Ends.condF hA rfl ?_
  refine Ends.skip ?_
  refine Ends.seq ?_
  refine Ends.region ?_
  refine S.val hA (R.move rfl) rfl ?_; clear hA a; intro a hA
  refine S.val hA (R.move rfl) rfl ?_; clear hA a; intro a hA
  refine S.val hA (R.to (v := .string ((s.extract x s.size))) (R.sliceSL Tryd.underlying9 rfl rfl (by omega)) (by first | rfl | (congr 2; done) | (congr 2 <;> omega))) rfl ?_; clear hA a; intro a hA
  refine S.val hA (R.assign rfl) rfl ?_; clear hA a; intro a hA
  refine S.done ?_
  replace hA : St 58 [(1, _), (4, _), (7, _)] a := hA.sub ((.cons rfl (.cons rfl (.cons rfl .nil))))
  refine Ends.seq ?_
  refine Ends.region ?_
  refine S.val hA (R.move rfl) rfl ?_; clear hA a; intro a hA
  refine S.val hA (R.move rfl) rfl ?_; clear hA a; intro a hA
  refine S.call hA (R.callF Tryd.func94 rfl rfl rfl) rfl (run_at s x _) ?_; clear hA a
  rintro e w1 ⟨rfl, hb⟩
  replace hM := hM.callB hb; clear hb
  refine ⟨.int .i64 ((dgs s x : Int)), rfl, fun a hA => ?_⟩
  obtain ⟨d, hd, hdsz, hdb⟩ : ∃ d, (s.extract x s.size).extract 0 (dgs s x) = d ∧ d.size = k ∧ ∀ j, j < k → byt d j = byt s (x + j) := by
    have hle := dgs_le s hx
    rw [hk] at hle ⊢
    have h1 : (s.extract x s.size).size = s.size - x := size_ext (Nat.le_refl _)
    refine ⟨_, rfl, by rw [size_ext (by omega)]; omega, fun j hj => ?_⟩
    rw [byt_ext (by omega) (by omega), Nat.zero_add, byt_ext (by omega) (Nat.le_refl _)]
  have hdg : ∀ j, j < k → dig s (x + j) := fun j hj => (dgs_spec s x).1 j (by omega)
  have hdd : ∀ j, j < k → dig d j := fun j hj => ⟨by omega, by rw [hdb j hj]; exact (hdg j hj).2⟩
  have hle := dgs_le s hx
  rw [hk] at hle
  have h1 : (s.extract x s.size).size = s.size - x := size_ext (Nat.le_refl _)
  refine S.val hA (R.to (v := .string d) (R.sliceSH Tryd.underlying9 rfl rfl (by rw [hk]; omega)) (congrArg Value.string hd)) rfl ?_; clear hA a; intro a hA
  refine S.val hA (R.assign rfl) rfl ?_; clear hA a; intro a hA
  refine S.done ?_
  replace hA : St 58 [(1, _), (4, _), (7, _)] a := hA.sub ((.cons rfl (.cons rfl (.cons rfl .nil))))
  refine Ends.seq ?_
  refine Ends.block ?_
  refine Ends.seq ?_
  refine Ends.region ?_
  refine S.val hA (R.move rfl) rfl ?_; clear hA a; intro a hA
  refine S.val hA (R.ff (R.eqlStr rfl rfl) (fun h => by rw [h] at hdsz; have h0 : (0 : Nat) = k := hdsz; omega)) rfl ?_; clear hA a; intro a hA
  refine S.val hA (R.move rfl) rfl ?_; clear hA a; intro a hA
  refine S.valg (dj := 28) hA (by kernel_rfl) rfl (R.move rfl) rfl ?_; clear hA a; intro a hA
  refine S.valg (dj := 28) hA (by kernel_rfl) rfl (R.lenStr Tryd.underlying9 rfl rfl) rfl ?_; clear hA a; intro a hA
  refine S.valg (dj := 28) hA (by kernel_rfl) rfl (R.tt (R.gtr rfl rfl) (by omega)) rfl ?_; clear hA a; intro a hA
  refine S.valg (dj := 28) hA (by kernel_rfl) rfl (R.move rfl) rfl ?_; clear hA a; intro a hA
  refine S.valg (dj := 32) hA (by kernel_rfl) rfl (R.move rfl) rfl ?_; clear hA a; intro a hA
  refine S.valg (dj := 32) hA (by kernel_rfl) rfl (R.to (v := .int .u8 (byt d 0)) (R.idxS Tryd.underlying9 rfl rfl (by omega)) (by first | rfl | (congr 2; done) | (congr 2; omega))) rfl ?_; clear hA a; intro a hA
  refine S.valg (dj := 32) hA (by kernel_rfl) rfl (R.ff (R.eql rfl rfl) (by rw [hdb 0 (by omega)]; exact h0)) rfl ?_; clear hA a; intro a hA
  refine S.valg (dj := 28) hA (by kernel_rfl) rfl (R.pickT rfl rfl) rfl ?_; clear hA a; intro a hA
  refine S.val hA (R.pickF rfl rfl) rfl ?_; clear hA a; intro a hA
  refine S.val hA (R.assign rfl) rfl ?_; clear hA a; intro a hA
  refine S.done ?_
  replace hA : St 58 [(1, _), (4, _), (7, _), (25, _)] a := hA.sub ((.cons rfl (.cons rfl (.cons rfl (.cons rfl .nil)))))
  refine Ends.condF hA rfl ?_
  refine Ends.seq ?_
  refine Ends.region ?_
  refine S.val hA (R.move rfl) rfl ?_; clear hA a; intro a hA
  refine S.val hA (R.lenStr Tryd.underlying9 rfl rfl) rfl ?_; clear hA a; intro a hA
  refine S.val hA (R.tt (R.gtr rfl rfl) (by omega)) rfl ?_; clear hA a; intro a hA
  refine S.val hA (R.assign rfl) rfl ?_; clear hA a; intro a hA
  refine S.done ?_
  replace hA : St 58 [(1, _), (4, _), (7, _), (38, _)] a := hA.sub ((.cons rfl (.cons rfl (.cons rfl (.cons rfl .nil)))))
  refine Ends.condT hA rfl ?_
  refine Ends.seq ?_
  refine Ends.region ?_
  refine S.val hA (R.assign rfl) rfl ?_; clear hA a; intro a hA
  refine S.val hA (R.assign rfl) rfl ?_; clear hA a; intro a hA
  refine S.val hA (R.assign rfl) rfl ?_; clear hA a; intro a hA
  refine S.done ?_
  replace hA : St 58 [(1, _), (4, _), (5, _), (6, _), (7, _)] a := hA.sub ((.cons rfl (.cons rfl (.cons rfl (.cons rfl (.cons rfl .nil))))))
  refine Ends.ret3 Tryd.func88 Tryd.results88 hA rfl rfl rfl ?_
  exact ⟨rfl, hM.nilL.below⟩
set_option maxRecDepth 100000 in
set_option maxHeartbeats 400000 in
theorem read_num1 (s : ByteArray) (x k : Nat) (hx : x ≤ s.size) (hk : dgs s x = k) (hsz : s.size ≤ 9223372036854775807) (h : k = 1) (w : World) :
    Calls Tryd.prog 88 #[.string s, .int .i64 ((x : Int))] w fun e w' => e = .returned (.tuple #[.int .i64 (numv s x k), .int .i64 (x + k), .int .i64 (0)]) ∧ Below w.heap.size w w' := by
  have hM := Mem.start w
  refine Calls.of_ends (vs := [.string s, .int .i64 ((x : Int))]) Tryd.func88 rfl Tryd.ntmps88 rfl ?_
  intro a hA
  replace hA : St 58 [(0, _), (1, _)] a := hA
  refine Ends.seq ?_
  refine Ends.region ?_
  refine S.val hA (R.assign rfl) rfl ?_; clear hA a; intro a hA
  refine S.val hA (R.assign rfl) rfl ?_; clear hA a; intro a hA
  refine S.val hA (R.assign rfl) rfl ?_; clear hA a; intro a hA
  refine S.done ?_
  replace hA : St 58 [(0, _), (1, _), (4, _)] a := hA.sub ((.cons rfl (.cons rfl (.cons rfl .nil))))
  refine Ends.seq ?_
  refine Ends.seq ?_
  refine Ends.region ?_
  refine S.val hA (R.move rfl) rfl ?_; clear hA a; intro a hA
  refine S.val hA (R.ff (R.lss rfl rfl) (by omega)) rfl ?_; clear hA a; intro a hA
  refine S.val hA (R.move rfl) rfl ?_; clear hA a; intro a hA
  refine S.valg (dj := 12) hA (by kernel_rfl) rfl (R.move rfl) rfl ?_; clear hA a; intro a hA
  refine S.valg (dj := 12) hA (by kernel_rfl) rfl (R.move rfl) rfl ?_; clear hA a; intro a hA
  refine S.valg (dj := 12) hA (by kernel_rfl) rfl (R.lenStr Tryd.underlying9 rfl rfl) rfl ?_; clear hA a; intro a hA
  refine S.valg (dj := 12) hA (by kernel_rfl) rfl (R.ff (R.gtr rfl rfl) (by omega)) rfl ?_; clear hA a; intro a hA
  refine S.val hA (R.pickF rfl rfl) rfl ?_; clear hA a; intro a hA
  refine S.done ?_
  replace hA : St 58 [(0, _), (1, _), (4, _), (17, _)] a := hA.sub ((.cons rfl (.cons rfl (.cons rfl (.cons rfl .nil)))))
  refine Ends.condF hA rfl ?_
  refine Ends.skip ?_
  refine Ends.seq ?_
  refine Ends.region ?_
  refine S.val hA (R.move rfl) rfl ?_; clear hA a; intro a hA
  refine S.val hA (R.move rfl) rfl ?_; clear hA a; intro a hA
  refine S.val hA (R.to (v := .string ((s.extract x s.size))) (R.sliceSL Tryd.underlying9 rfl rfl (by omega)) (by first | rfl | (congr 2; done) | (congr 2 <;> omega))) rfl ?_; clear hA a; intro a hA
  refine S.val hA (R.assign rfl) rfl ?_; clear hA a; intro a hA
  refine S.done ?_
  replace hA : St 58 [(1, _), (4, _), (7, _)] a := hA.sub ((.cons rfl (.cons rfl (.cons rfl .nil))))
  refine Ends.seq ?_
  refine Ends.region ?_
  refine S.val hA (R.move rfl) rfl ?_; clear hA a; intro a hA
  refine S.val hA (R.move rfl) rfl ?_; clear hA a; intro a hA
  refine S.call hA (R.callF Tryd.func94 rfl rfl rfl) rfl (run_at s x _) ?_; clear hA a
  rintro e w1 ⟨rfl, hb⟩
  replace hM := hM.callB hb; clear hb
  refine ⟨.int .i64 ((dgs s x : Int)), rfl, fun a hA => ?_⟩
  obtain ⟨d, hd, hdsz, hdb⟩ : ∃ d, (s.extract x s.size).extract 0 (dgs s x) = d ∧ d.size = k ∧ ∀ j, j < k → byt d j = byt s (x + j) := by
    have hle := dgs_le s hx
    rw [hk] at hle ⊢
    have h1 : (s.extract x s.size).size = s.size - x := size_ext (Nat.le_refl _)
    refine ⟨_, rfl, by rw [size_ext (by omega)]; omega, fun j hj => ?_⟩
    rw [byt_ext (by omega) (by omega), Nat.zero_add, byt_ext (by omega) (Nat.le_refl _)]
  have hdg : ∀ j, j < k → dig s (x + j) := fun j hj => (dgs_spec s x).1 j (by omega)
  have hdd : ∀ j, j < k → dig d j := fun j hj => ⟨by omega, by rw [hdb j hj]; exact (hdg j hj).2⟩
  have hle := dgs_le s hx
  rw [hk] at hle
  have h1 : (s.extract x s.size).size = s.size - x := size_ext (Nat.le_refl _)
  refine S.val hA (R.to (v := .string d) (R.sliceSH Tryd.underlying9 rfl rfl (by rw [hk]; omega)) (congrArg Value.string hd)) rfl ?_; clear hA a; intro a hA
  refine S.val hA (R.assign rfl) rfl ?_; clear hA a; intro a hA
  refine S.done ?_
  replace hA : St 58 [(1, _), (4, _), (7, _)] a := hA.sub ((.cons rfl (.cons rfl (.cons rfl .nil))))
  refine Ends.seq ?_
  refine Ends.block ?_
  refine Ends.seq ?_
  refine Ends.region ?_
  refine S.val hA (R.move rfl) rfl ?_; clear hA a; intro a hA
  refine S.val hA (R.ff (R.eqlStr rfl rfl) (fun h => by rw [h] at hdsz; have h0 : (0 : Nat) = k := hdsz; omega)) rfl ?_; clear hA a; intro a hA
  refine S.val hA (R.move rfl) rfl ?_; clear hA a; intro a hA
  refine S.valg (dj := 28) hA (by kernel_rfl) rfl (R.move rfl) rfl ?_; clear hA a; intro a hA
  refine S.valg (dj := 28) hA (by kernel_rfl) rfl (R.lenStr Tryd.underlying9 rfl rfl) rfl ?_; clear hA a; intro a hA
  refine S.valg (dj := 28) hA (by kernel_rfl) rfl (R.ff (R.gtr rfl rfl) (by omega)) rfl ?_; clear hA a; intro a hA
  refine S.valg (dj := 28) hA (by kernel_rfl) rfl (R.move rfl) rfl ?_; clear hA a; intro a hA
  refine S.no (dj := 32) hA (by kernel_rfl) rfl rfl rfl ?_; clear hA a; intro a hA
  refine S.no (dj := 32) hA (by kernel_rfl) rfl rfl rfl ?_; clear hA a; intro a hA
  refine S.no (dj := 32) hA (by kernel_rfl) rfl rfl rfl ?_; clear hA a; intro a hA
  refine S.valg (dj := 28) hA (by kernel_rfl) rfl (R.pickF rfl rfl) rfl ?_; clear hA a; intro a hA
  refine S.val hA (R.pickF rfl rfl) rfl ?_; clear hA a; intro a hA
  refine S.val hA (R.assign rfl) rfl ?_; clear hA a; intro a hA
  refine S.done ?_
  replace hA : St 58 [(1, _), (4, _), (7, _), (25, _)] a := hA.sub ((.cons rfl (.cons rfl (.cons rfl (.cons rfl .nil)))))
  refine Ends.condF hA rfl ?_
  refine Ends.seq ?_
  refine Ends.region ?_
  refine S.val hA (R.move rfl) rfl ?_; clear hA a; intro a hA
  refine S.val hA (R.lenStr Tryd.underlying9 rfl rfl) rfl ?_; clear hA a; intro a hA
  refine S.val hA (R.ff (R.gtr rfl rfl) (by omega)) rfl ?_; clear hA a; intro a hA
  refine S.val hA (R.assign rfl) rfl ?_; clear hA a; intro a hA
  refine S.done ?_
  replace hA : St 58 [(1, _), (4, _), (7, _), (38, _)] a := hA.sub ((.cons rfl (.cons rfl (.cons rfl (.cons rfl .nil)))))
  refine Ends.condF hA rfl ?_
  refine Ends.skip ?_
  refine Ends.inBlock ?_
  refine Ends.seq ?_
  refine Ends.seq ?_
  refine Ends.region ?_
  refine S.val hA (R.move rfl) rfl ?_; clear hA a; intro a hA
  refine S.rangeS hA hM Tryd.underlying9 rfl rfl ?_; clear hA hM a; intro b1 w2 hb2 hM a hA
  replace hM : Mem _ _ [itC b1 d 0] _ := hM
  refine S.done ?_
  replace hA : St 58 [(1, _), (4, _), (7, _), (43, _)] a := hA.sub ((.cons rfl (.cons rfl (.cons rfl (.cons rfl .nil)))))
  refine Ends.block ?_
  refine Ends.loop (σ := Nat) (fun j (a : Act) (wv : World) => St 58 [(1, .int .i64 ((x : Int))), (4, .int .i64 (numv s x j)), (7, .string d), (43, .pointer (some ⟨b1, 0, none⟩))] a ∧ Mem w nof [itC b1 d j] wv ∧ (j ≤ k)) (fun j => d.size - j) 0 ⟨hA.sub ((.cons rfl (.cons rfl (.cons rfl (.cons rfl .nil))))), hM, (Nat.zero_le _)⟩ ?_
  clear hA hM a
  rintro j a w3 ⟨hA, hM, hj⟩ hNext
  refine Ends.seq ?_
  refine Ends.region ?_
  by_cases hp3 : j < d.size
  ·
    refine S.nextT (k := 0) hA hM rfl rfl hp3 rfl ?_; clear hA hM a; intro w4 hM a hA
    replace hM : Mem _ _ [itC b1 d ((j + (Utf8.decode d j).2))] _ := hM
    refine S.val hA (R.extract (v := .bool true) rfl rfl) rfl ?_; clear hA a; intro a hA
    refine S.done ?_
    replace hA : St 58 [(1, _), (4, _), (7, _), (43, _), (44, _), (45, _)] a := hA.sub ((.cons rfl (.cons rfl (.cons rfl (.cons rfl (.cons rfl (.cons rfl .nil)))))))
    refine Ends.seq ?_
    refine Ends.condT hA rfl ?_
    refine Ends.skip ?_
    refine Ends.block ?_
    refine Ends.seq ?_
    refine Ends.region ?_
    refine S.val hA (R.extract (v := .int .i32 (((Utf8.decode d j).1 : Int))) rfl rfl) rfl ?_; clear hA a; intro a hA
    refine S.val hA (R.assign rfl) rfl ?_; clear hA a; intro a hA
    refine S.done ?_
    replace hA : St 58 [(1, _), (4, _), (7, _), (9, _), (43, _)] a := hA.sub ((.cons rfl (.cons rfl (.cons rfl (.cons rfl (.cons rfl .nil))))))
    have hr : ((Utf8.decode d j).1 : Int) = byt s (x + j) := by rw [((dec_dig hp3).2 (hdd j (by omega))).2]; exact hdb j (by omega)
    have hnv := numv_lt (s := s) (x := x) (k := j) (fun i hi => hdg i (by omega)) (by omega)
    have hdj := (hdg j (by omega)).2
    refine Ends.region ?_
    refine S.val hA (R.move rfl) rfl ?_; clear hA a; intro a hA
    refine S.val hA (R.mulI rfl rfl (r := (numv s x j) * 10) rfl (by omega)) rfl ?_; clear hA a; intro a hA
    refine S.val hA (R.move rfl) rfl ?_; clear hA a; intro a hA
    refine S.val hA (R.to (v := .int .i32 (byt s (x + j) - 48)) (R.sub rfl rfl) (congrArg (Value.int .i32) (by rw [hr]; exact i32_wrap (by omega)))) rfl ?_; clear hA a; intro a hA
    refine S.val hA (R.to (v := .int .i64 (byt s (x + j) - 48)) (R.conv Tryd.underlying3 Tryd.underlying21 rfl) (congrArg (Value.int .i64) (i64_wrap (by omega)))) rfl ?_; clear hA a; intro a hA
    refine S.val hA (R.addI rfl rfl (r := ((numv s x j) * 10) + (byt s (x + j) - 48)) rfl (by omega)) rfl ?_; clear hA a; intro a hA
    refine S.val hA (R.assign rfl) rfl ?_; clear hA a; intro a hA
    refine S.done ?_
    replace hA : St 58 [(1, _), (4, _), (7, _), (43, _)] a := hA.sub ((.cons rfl (.cons rfl (.cons rfl (.cons rfl .nil)))))
    refine Ends.inBlock ?_
    rw [((dec_dig hp3).2 (hdd j (by omega))).1] at hM
    exact hNext ((j + 1)) _ _ ((by show d.size - (j + 1) < d.size - j; omega)) ⟨hA.sub ((.cons rfl (.cons rfl (.cons rfl (.cons rfl .nil))))), hM, (by omega)⟩
  ·
    refine S.val hA (R.nextF (k := 0) hM rfl rfl hp3) rfl ?_; clear hA a; intro a hA
    refine S.val hA (R.extract (v := .bool false) rfl rfl) rfl ?_; clear hA a; intro a hA
    refine S.done ?_
    replace hA : St 58 [(1, _), (4, _), (7, _), (43, _), (44, _), (45, _)] a := hA.sub ((.cons rfl (.cons rfl (.cons rfl (.cons rfl (.cons rfl (.cons rfl .nil)))))))
    refine Ends.seq ?_
    refine Ends.condF hA rfl ?_
    refine Ends.exit rfl ?_
    replace hA : St 58 [(1, _), (4, _), (7, _)] a := hA.sub ((.cons rfl (.cons rfl (.cons rfl .nil))))
    refine Ends.seq ?_
    refine Ends.region ?_
    refine S.val hA (R.move rfl) rfl ?_; clear hA a; intro a hA
    refine S.val hA (R.move rfl) rfl ?_; clear hA a; intro a hA
    refine S.val hA (R.move rfl) rfl ?_; clear hA a; intro a hA
    refine S.val hA (R.lenStr Tryd.underlying9 rfl rfl) rfl ?_; clear hA a; intro a hA
    refine S.val hA (R.addI rfl rfl (r := ((x : Int)) + ((d.size : Int))) rfl (by omega)) rfl ?_; clear hA a; intro a hA
    refine S.val hA (R.assign rfl) rfl ?_; clear hA a; intro a hA
    refine S.val hA (R.assign rfl) rfl ?_; clear hA a; intro a hA
    refine S.val hA (R.assign rfl) rfl ?_; clear hA a; intro a hA
    refine S.done ?_
    replace hA : St 58 [(4, _), (5, _), (6, _)] a := hA.sub ((.cons rfl (.cons rfl (.cons rfl .nil))))
    refine Ends.ret3 Tryd.func88 Tryd.results88 hA rfl rfl rfl ?_
    have hje : j = k := by omega
    rw [hdsz, hje]
    exact ⟨rfl, hM.nilL.below⟩
set_option maxRecDepth 100000 in
set_option maxHeartbeats 400000 in
theorem read_num (s : ByteArray) (x k : Nat) (hx : x ≤ s.size) (hk : dgs s x = k) (hsz : s.size ≤ 9223372036854775807) (h : 1 < k ∧ k ≤ 18) (h0 : byt s x ≠ 48) (w : World) :
    Calls Tryd.prog 88 #[.string s, .int .i64 ((x : Int))] w fun e w' => e = .returned (.tuple #[.int .i64 (numv s x k), .int .i64 (x + k), .int .i64 (0)]) ∧ Below w.heap.size w w' := by
  have hM := Mem.start w
  refine Calls.of_ends (vs := [.string s, .int .i64 ((x : Int))]) Tryd.func88 rfl Tryd.ntmps88 rfl ?_
  intro a hA
  replace hA : St 58 [(0, _), (1, _)] a := hA
  refine Ends.seq ?_
  refine Ends.region ?_
  refine S.val hA (R.assign rfl) rfl ?_; clear hA a; intro a hA
  refine S.val hA (R.assign rfl) rfl ?_; clear hA a; intro a hA
  refine S.val hA (R.assign rfl) rfl ?_; clear hA a; intro a hA
  refine S.done ?_
  replace hA : St 58 [(0, _), (1, _), (4, _)] a := hA.sub ((.cons rfl (.cons rfl (.cons rfl .nil))))
  refine Ends.seq ?_
  refine Ends.seq ?_
  refine Ends.region ?_
  refine S.val hA (R.move rfl) rfl ?_; clear hA a; intro a hA
  refine S.val hA (R.ff (R.lss rfl rfl) (by omega)) rfl ?_; clear hA a; intro a hA
  refine S.val hA (R.move rfl) rfl ?_; clear hA a; intro a hA
  refine S.valg (dj := 12) hA (by kernel_rfl) rfl (R.move rfl) rfl ?_; clear hA a; intro a hA
  refine S.valg (dj := 12) hA (by kernel_rfl) rfl (R.move rfl) rfl ?_; clear hA a; intro a hA
  refine S.valg (dj := 12) hA (by kernel_rfl) rfl (R.lenStr Tryd.underlying9 rfl rfl) rfl ?_; clear hA a; intro a hA
  refine S.valg (dj := 12) hA (by kernel_rfl) rfl (R.ff (R.gtr rfl rfl) (by omega)) rfl ?_; clear hA a; intro a hA
  refine S.val hA (R.pickF rfl rfl) rfl ?_; clear hA a; intro a hA
  refine S.done ?_
  replace hA : St 58 [(0, _), (1, _), (4, _), (17, _)] a := hA.sub ((.cons rfl (.cons rfl (.cons rfl (.cons rfl .nil)))))
  refine Ends.condF hA rfl ?_
  refine Ends.skip ?_
  refine Ends.seq ?_
  refine Ends.region ?_
  refine S.val hA (R.move rfl) rfl ?_; clear hA a; intro a hA
  refine S.val hA (R.move rfl) rfl ?_; clear hA a; intro a hA
  refine S.val hA (R.to (v := .string ((s.extract x s.size))) (R.sliceSL Tryd.underlying9 rfl rfl (by omega)) (by first | rfl | (congr 2; done) | (congr 2 <;> omega))) rfl ?_; clear hA a; intro a hA
  refine S.val hA (R.assign rfl) rfl ?_; clear hA a; intro a hA
  refine S.done ?_
  replace hA : St 58 [(1, _), (4, _), (7, _)] a := hA.sub ((.cons rfl (.cons rfl (.cons rfl .nil))))
  refine Ends.seq ?_
  refine Ends.region ?_
  refine S.val hA (R.move rfl) rfl ?_; clear hA a; intro a hA
  refine S.val hA (R.move rfl) rfl ?_; clear hA a; intro a hA
  refine S.call hA (R.callF Tryd.func94 rfl rfl rfl) rfl (run_at s x _) ?_; clear hA a
  rintro e w1 ⟨rfl, hb⟩
  replace hM := hM.callB hb; clear hb
  refine ⟨.int .i64 ((dgs s x : Int)), rfl, fun a hA => ?_⟩
  obtain ⟨d, hd, hdsz, hdb⟩ : ∃ d, (s.extract x s.size).extract 0 (dgs s x) = d ∧ d.size = k ∧ ∀ j, j < k → byt d j = byt s (x + j) := by
    have hle := dgs_le s hx
    rw [hk] at hle ⊢
    have h1 : (s.extract x s.size).size = s.size - x := size_ext (Nat.le_refl _)
    refine ⟨_, rfl, by rw [size_ext (by omega)]; omega, fun j hj => ?_⟩
    rw [byt_ext (by omega) (by omega), Nat.zero_add, byt_ext (by omega) (Nat.le_refl _)]
  have hdg : ∀ j, j < k → dig s (x + j) := fun j hj => (dgs_spec s x).1 j (by omega)
  have hdd : ∀ j, j < k → dig d j := fun j hj => ⟨by omega, by rw [hdb j hj]; exact (hdg j hj).2⟩
  have hle := dgs_le s hx
  rw [hk] at hle
  have h1 : (s.extract x s.size).size = s.size - x := size_ext (Nat.le_refl _)
  refine S.val hA (R.to (v := .string d) (R.sliceSH Tryd.underlying9 rfl rfl (by rw [hk]; omega)) (congrArg Value.string hd)) rfl ?_; clear hA a; intro a hA
  refine S.val hA (R.assign rfl) rfl ?_; clear hA a; intro a hA
  refine S.done ?_
  replace hA : St 58 [(1, _), (4, _), (7, _)] a := hA.sub ((.cons rfl (.cons rfl (.cons rfl .nil))))
  refine Ends.seq ?_
  refine Ends.block ?_
  refine Ends.seq ?_
  refine Ends.region ?_
  refine S.val hA (R.move rfl) rfl ?_; clear hA a; intro a hA
  refine S.val hA (R.ff (R.eqlStr rfl rfl) (fun h => by rw [h] at hdsz; have h0 : (0 : Nat) = k := hdsz; omega)) rfl ?_; clear hA a; intro a hA
  refine S.val hA (R.move rfl) rfl ?_; clear hA a; intro a hA
  refine S.valg (dj := 28) hA (by kernel_rfl) rfl (R.move rfl) rfl ?_; clear hA a; intro a hA
  refine S.valg (dj := 28) hA (by kernel_rfl) rfl (R.lenStr Tryd.underlying9 rfl rfl) rfl ?_; clear hA a; intro a hA
  refine S.valg (dj := 28) hA (by kernel_rfl) rfl (R.tt (R.gtr rfl rfl) (by omega)) rfl ?_; clear hA a; intro a hA
  refine S.valg (dj := 28) hA (by kernel_rfl) rfl (R.move rfl) rfl ?_; clear hA a; intro a hA
  refine S.valg (dj := 32) hA (by kernel_rfl) rfl (R.move rfl) rfl ?_; clear hA a; intro a hA
  refine S.valg (dj := 32) hA (by kernel_rfl) rfl (R.to (v := .int .u8 (byt d 0)) (R.idxS Tryd.underlying9 rfl rfl (by omega)) (by first | rfl | (congr 2; done) | (congr 2; omega))) rfl ?_; clear hA a; intro a hA
  refine S.valg (dj := 32) hA (by kernel_rfl) rfl (R.ff (R.eql rfl rfl) (by rw [hdb 0 (by omega)]; exact h0)) rfl ?_; clear hA a; intro a hA
  refine S.valg (dj := 28) hA (by kernel_rfl) rfl (R.pickT rfl rfl) rfl ?_; clear hA a; intro a hA
  refine S.val hA (R.pickF rfl rfl) rfl ?_; clear hA a; intro a hA
  refine S.val hA (R.assign rfl) rfl ?_; clear hA a; intro a hA
  refine S.done ?_
  replace hA : St 58 [(1, _), (4, _), (7, _), (25, _)] a := hA.sub ((.cons rfl (.cons rfl (.cons rfl (.cons rfl .nil)))))
  refine Ends.condF hA rfl ?_
  refine Ends.seq ?_
  refine Ends.region ?_
  refine S.val hA (R.move rfl) rfl ?_; clear hA a; intro a hA
  refine S.val hA (R.lenStr Tryd.underlying9 rfl rfl) rfl ?_; clear hA a; intro a hA
  refine S.val hA (R.ff (R.gtr rfl rfl) (by omega)) rfl ?_; clear hA a; intro a hA
  refine S.val hA (R.assign rfl) rfl ?_; clear hA a; intro a hA
  refine S.done ?_
  replace hA : St 58 [(1, _), (4, _), (7, _), (38, _)] a := hA.sub ((.cons rfl (.cons rfl (.cons rfl (.cons rfl .nil)))))
  refine Ends.condF hA rfl ?_
  refine Ends.skip ?_
  refine Ends.inBlock ?_
  refine Ends.seq ?_
  refine Ends.seq ?_
  refine Ends.region ?_
  refine S.val hA (R.move rfl) rfl ?_; clear hA a; intro a hA
  refine S.rangeS hA hM Tryd.underlying9 rfl rfl ?_; clear hA hM a; intro b1 w2 hb2 hM a hA
  replace hM : Mem _ _ [itC b1 d 0] _ := hM
  refine S.done ?_
  replace hA : St 58 [(1, _), (4, _), (7, _), (43, _)] a := hA.sub ((.cons rfl (.cons rfl (.cons rfl (.cons rfl .nil)))))
  refine Ends.block ?_
  refine Ends.loop (σ := Nat) (fun j (a : Act) (wv : World) => St 58 [(1, .int .i64 ((x : Int))), (4, .int .i64 (numv s x j)), (7, .string d), (43, .pointer (some ⟨b1, 0, none⟩))] a ∧ Mem w nof [itC b1 d j] wv ∧ (j ≤ k)) (fun j => d.size - j) 0 ⟨hA.sub ((.cons rfl (.cons rfl (.cons rfl (.cons rfl .nil))))), hM, (Nat.zero_le _)⟩ ?_
  clear hA hM a
  rintro j a w3 ⟨hA, hM, hj⟩ hNext
  refine Ends.seq ?_
  refine Ends.region ?_
  by_cases hp3 : j < d.size
  ·
    refine S.nextT (k := 0) hA hM rfl rfl hp3 rfl ?_; clear hA hM a; intro w4 hM a hA
    replace hM : Mem _ _ [itC b1 d ((j + (Utf8.decode d j).2))] _ := hM
    refine S.val hA (R.extract (v := .bool true) rfl rfl) rfl ?_; clear hA a; intro a hA
    refine S.done ?_
    replace hA : St 58 [(1, _), (4, _), (7, _), (43, _), (44, _), (45, _)] a := hA.sub ((.cons rfl (.cons rfl (.cons rfl (.cons rfl (.cons rfl (.cons rfl .nil)))))))
    refine Ends.seq ?_
    refine Ends.condT hA rfl ?_
    refine Ends.skip ?_
    refine Ends.block ?_
    refine Ends.seq ?_
    refine Ends.region ?_
    refine S.val hA (R.extract (v := .int .i32 (((Utf8.decode d j).1 : Int))) rfl rfl) rfl ?_; clear hA a; intro a hA
    refine S.val hA (R.assign rfl) rfl ?_; clear hA a; intro a hA
    refine S.done ?_
    replace hA : St 58 [(1, _), (4, _), (7, _), (9, _), (43, _)] a := hA.sub ((.cons rfl (.cons rfl (.cons rfl (.cons rfl (.cons rfl .nil))))))
    have hr : ((Utf8.decode d j).1 : Int) = byt s (x + j) := by rw [((dec_dig hp3).2 (hdd j (by omega))).2]; exact hdb j (by omega)
    have hnv := numv_lt (s := s) (x := x) (k := j) (fun i hi => hdg i (by omega)) (by omega)
    have hdj := (hdg j (by omega)).2
    refine Ends.region ?_
    refine S.val hA (R.move rfl) rfl ?_; clear hA a; intro a hA
    refine S.val hA (R.mulI rfl rfl (r := (numv s x j) * 10) rfl (by omega)) rfl ?_; clear hA a; intro a hA
    refine S.val hA (R.move rfl) rfl ?_; clear hA a; intro a hA
    refine S.val hA (R.to (v := .int .i32 (byt s (x + j) - 48)) (R.sub rfl rfl) (congrArg (Value.int .i32) (by rw [hr]; exact i32_wrap (by omega)))) rfl ?_; clear hA a; intro a hA
    refine S.val hA (R.to (v := .int .i64 (byt s (x + j) - 48)) (R.conv Tryd.underlying3 Tryd.underlying21 rfl) (congrArg (Value.int .i64) (i64_wrap (by omega)))) rfl ?_; clear hA a; intro a hA
    refine S.val hA (R.addI rfl rfl (r := ((numv s x j) * 10) + (byt s (x + j) - 48)) rfl (by omega)) rfl ?_; clear hA a; intro a hA
    refine S.val hA (R.assign rfl) rfl ?_; clear hA a; intro a hA
    refine S.done ?_
    replace hA : St 58 [(1, _), (4, _), (7, _), (43, _)] a := hA.sub ((.cons rfl (.cons rfl (.cons rfl (.cons rfl .nil)))))
    refine Ends.inBlock ?_
    rw [((dec_dig hp3).2 (hdd j (by omega))).1] at hM
    exact hNext ((j + 1)) _ _ ((by show d.size - (j + 1) < d.size - j; omega)) ⟨hA.sub ((.cons rfl (.cons rfl (.cons rfl (.cons rfl .nil))))), hM, (by omega)⟩
  ·
    refine S.val hA (R.nextF (k := 0) hM rfl rfl hp3) rfl ?_; clear hA a; intro a hA
    refine S.val hA (R.extract (v := .bool false) rfl rfl) rfl ?_; clear hA a; intro a hA
    refine S.done ?_
    replace hA : St 58 [(1, _), (4, _), (7, _), (43, _), (44, _), (45, _)] a := hA.sub ((.cons rfl (.cons rfl (.cons rfl (.cons rfl (.cons rfl (.cons rfl .nil)))))))
    refine Ends.seq ?_
    refine Ends.condF hA rfl ?_
    refine Ends.exit rfl ?_
    replace hA : St 58 [(1, _), (4, _), (7, _)] a := hA.sub ((.cons rfl (.cons rfl (.cons rfl .nil))))
    refine Ends.seq ?_
    refine Ends.region ?_
    refine S.val hA (R.move rfl) rfl ?_; clear hA a; intro a hA
    refine S.val hA (R.move rfl) rfl ?_; clear hA a; intro a hA
    refine S.val hA (R.move rfl) rfl ?_; clear hA a; intro a hA
    refine S.val hA (R.lenStr Tryd.underlying9 rfl rfl) rfl ?_; clear hA a; intro a hA
    refine S.val hA (R.addI rfl rfl (r := ((x : Int)) + ((d.size : Int))) rfl (by omega)) rfl ?_; clear hA a; intro a hA
    refine S.val hA (R.assign rfl) rfl ?_; clear hA a; intro a hA
    refine S.val hA (R.assign rfl) rfl ?_; clear hA a; intro a hA
    refine S.val hA (R.assign rfl) rfl ?_; clear hA a; intro a hA
    refine S.done ?_
    replace hA : St 58 [(4, _), (5, _), (6, _)] a := hA.sub ((.cons rfl (.cons rfl (.cons rfl .nil))))
    refine Ends.ret3 Tryd.func88 Tryd.results88 hA rfl rfl rfl ?_
    have hje : j = k := by omega
    rw [hdsz, hje]
    exact ⟨rfl, hM.nilL.below⟩
theorem read_any (s : ByteArray) (p : Int) (hsz : s.size ≤ 9223372036854775807) (w : World) : Calls Tryd.prog 88 #[.string s, .int .i64 p] w fun e w' => e = .returned (.tuple #[.int .i64 (readI s p).1, .int .i64 (readI s p).2.1, .int .i64 (readI s p).2.2]) ∧ Below w.heap.size w w' := by
  by_cases h : p < 0 ∨ (s.size : Int) < p
  · have e : readI s p = (0, 0, 1) := by unfold readI; rw [if_pos h]
    rw [e]; exact read_out s p h w
  · obtain ⟨x, rfl⟩ : ∃ x : Nat, p = x := ⟨p.toNat, by omega⟩
    have hx : x ≤ s.size := by omega
    have ex : ((x : Int)).toNat = x := rfl
    obtain ⟨k, hk⟩ : ∃ k, dgs s x = k := ⟨_, rfl⟩
    by_cases h1 : k = 0
    · have e : readI s x = (0, 0, 4) := by unfold readI; rw [if_neg h, ex, hk, if_pos (.inl h1)]
      rw [e]; exact read_none s x k hx hk hsz h1 w
    · by_cases h2 : 1 < k
      · by_cases h3 : byt s x = 48
        · have e : readI s x = (0, 0, 4) := by unfold readI; rw [if_neg h, ex, hk, if_pos (.inr ⟨h2, h3⟩)]
          rw [e]; exact read_nul s x k hx hk hsz h2 h3 w
        · have hn : ¬ (k = 0 ∨ 1 < k ∧ byt s x = 48) := fun hh => hh.elim h1 (fun g => h3 g.2)
          by_cases h4 : 18 < k
          · have e : readI s x = (0, 0, 5) := by unfold readI; rw [if_neg h, ex, hk, if_neg hn, if_pos h4]
            rw [e]; exact read_big s x k hx hk hsz h4 h3 w
          · have e : readI s x = (numv s x k, (x : Int) + (k : Int), 0) := by unfold readI; rw [if_neg h, ex, hk, if_neg hn, if_neg h4]
            rw [e]; exact read_num s x k hx hk hsz ⟨h2, by omega⟩ h3 w
      · have hn : ¬ (k = 0 ∨ 1 < k ∧ byt s x = 48) := fun hh => hh.elim h1 (fun g => h2 g.1)
        have e : readI s x = (numv s x k, (x : Int) + (k : Int), 0) := by unfold readI; rw [if_neg h, ex, hk, if_neg hn, if_neg (by omega)]
        rw [e]; exact read_num1 s x k hx hk hsz (by omega) w
set_option maxRecDepth 100000 in
set_option maxHeartbeats 400000 in
theorem place_any (s : ByteArray) (q : Int) (hsz : s.size ≤ 4611686018427387904) (w : World) :
    Calls Tryd.prog 32 #[.string s, .int .i64 q] w fun e w' => e = .returned (.tuple #[.int .i64 (plI s q).1, .int .i64 (plI s q).2]) ∧ Below w.heap.size w w' := by
  have hM := Mem.start w
  refine Calls.of_ends (vs := [.string s, .int .i64 q]) Tryd.func32 rfl Tryd.ntmps32 rfl ?_
  intro a hA
  replace hA : St 25 [(0, _), (1, _)] a := hA
  refine Ends.seq ?_
  refine Ends.region ?_
  refine S.val hA (R.assign rfl) rfl ?_; clear hA a; intro a hA
  refine S.val hA (R.assign rfl) rfl ?_; clear hA a; intro a hA
  refine S.done ?_
  replace hA : St 25 [(0, _), (1, _)] a := hA.sub ((.cons rfl (.cons rfl .nil)))
  refine Ends.seq ?_
  refine Ends.region ?_
  refine S.val hA (R.assign rfl) rfl ?_; clear hA a; intro a hA
  refine S.val hA (R.assign rfl) rfl ?_; clear hA a; intro a hA
  refine S.done ?_
  replace hA : St 25 [(0, _), (1, _), (4, _), (5, _)] a := hA.sub ((.cons rfl (.cons rfl (.cons rfl (.cons rfl .nil)))))
  refine Ends.seq ?_
  refine Ends.seq ?_
  refine Ends.region ?_
  refine S.val hA (R.move rfl) rfl ?_; clear hA a; intro a hA
  refine S.rangeS hA hM Tryd.underlying9 rfl rfl ?_; clear hA hM a; intro b1 w1 hb2 hM a hA
  replace hM : Mem _ _ [itC b1 s 0] _ := hM
  refine S.done ?_
  replace hA : St 25 [(1, _), (4, _), (5, _), (9, _)] a := hA.sub ((.cons rfl (.cons rfl (.cons rfl (.cons rfl .nil)))))
  refine Ends.block ?_
  refine Ends.loop (σ := Nat × Nat × Int × Int) (fun (p, f, l, c) (a : Act) (wv : World) => St 25 [(1, .int .i64 q), (4, .int .i64 l), (5, .int .i64 c), (9, .pointer (some ⟨b1, 0, none⟩))] a ∧ Mem w nof [itC b1 s p] wv ∧ (s.size ≤ p + f) ∧ (plF s q f p l c = plI s q) ∧ (1 ≤ l ∧ l ≤ 1 + (p : Int)) ∧ (1 ≤ c ∧ c ≤ 1 + (p : Int))) (fun (p, f, l, c) => f) ((0, s.size, 1, 1)) ⟨hA.sub ((.cons rfl (.cons rfl (.cons rfl (.cons rfl .nil))))), hM, (by omega), rfl, (by omega), (by omega)⟩ ?_
  clear hA hM a
  rintro ⟨p, f, l, c⟩ a w2 ⟨hA, hM, hf, hpl, hl, hc⟩ hNext
  refine Ends.seq ?_
  refine Ends.region ?_
  by_cases hp3 : p < s.size
  ·
    refine S.nextT (k := 0) hA hM rfl rfl hp3 rfl ?_; clear hA hM a; intro w3 hM a hA
    replace hM : Mem _ _ [itC b1 s ((p + (Utf8.decode s p).2))] _ := hM
    refine S.val hA (R.extract (v := .bool true) rfl rfl) rfl ?_; clear hA a; intro a hA
    refine S.done ?_
    replace hA : St 25 [(1, _), (4, _), (5, _), (9, _), (10, _), (11, _)] a := hA.sub ((.cons rfl (.cons rfl (.cons rfl (.cons rfl (.cons rfl (.cons rfl .nil)))))))
    refine Ends.seq ?_
    refine Ends.condT hA rfl ?_
    refine Ends.skip ?_
    refine Ends.block ?_
    refine Ends.seq ?_
    refine Ends.region ?_
    refine S.val hA (R.extract (v := .int .i64 ((p : Int))) rfl rfl) rfl ?_; clear hA a; intro a hA
    refine S.val hA (R.extract (v := .int .i32 (((Utf8.decode s p).1 : Int))) rfl rfl) rfl ?_; clear hA a; intro a hA
    refine S.val hA (R.assign rfl) rfl ?_; clear hA a; intro a hA
    refine S.val hA (R.assign rfl) rfl ?_; clear hA a; intro a hA
    refine S.done ?_
    replace hA : St 25 [(1, _), (4, _), (5, _), (6, _), (7, _), (9, _)] a := hA.sub ((.cons rfl (.cons rfl (.cons rfl (.cons rfl (.cons rfl (.cons rfl .nil)))))))
    refine Ends.seq ?_
    refine Ends.seq ?_
    refine Ends.region ?_
    refine S.val hA (R.move rfl) rfl ?_; clear hA a; intro a hA
    refine S.val hA (R.move rfl) rfl ?_; clear hA a; intro a hA
    refine S.val hA (R.geq rfl rfl) rfl ?_; clear hA a; intro a hA
    refine S.done ?_
    replace hA : St 25 [(1, _), (4, _), (5, _), (7, _), (9, _), (16, _)] a := hA.sub ((.cons rfl (.cons rfl (.cons rfl (.cons rfl (.cons rfl (.cons rfl .nil)))))))
    refine Ends.ite hA rfl (fun hc4 => ?_) (fun hc4 => ?_)
    ·
      refine Ends.exit rfl ?_
      replace hA : St 25 [(4, _), (5, _)] a := hA.sub ((.cons rfl (.cons rfl .nil)))
      refine Ends.seq ?_
      refine Ends.region ?_
      refine S.val hA (R.move rfl) rfl ?_; clear hA a; intro a hA
      refine S.val hA (R.move rfl) rfl ?_; clear hA a; intro a hA
      refine S.val hA (R.assign rfl) rfl ?_; clear hA a; intro a hA
      refine S.val hA (R.assign rfl) rfl ?_; clear hA a; intro a hA
      refine S.done ?_
      replace hA : St 25 [(4, _), (5, _)] a := hA.sub ((.cons rfl (.cons rfl .nil)))
      refine Ends.ret2 Tryd.func32 Tryd.results32 hA rfl rfl ?_
      have e0 : plI s q = (l, c) := by rw [← hpl]; exact plF_stop (fun h => by omega) _ _ _
      rw [e0]
      exact ⟨rfl, hM.nilL.below⟩
    ·
      refine Ends.skip ?_
      refine Ends.seq ?_
      refine Ends.region ?_
      refine S.val hA (R.move rfl) rfl ?_; clear hA a; intro a hA
      refine S.val hA (R.addI rfl rfl (r := c + 1) rfl (by omega)) rfl ?_; clear hA a; intro a hA
      refine S.val hA (R.assign rfl) rfl ?_; clear hA a; intro a hA
      refine S.done ?_
      replace hA : St 25 [(1, _), (4, _), (5, _), (7, _), (9, _)] a := hA.sub ((.cons rfl (.cons rfl (.cons rfl (.cons rfl (.cons rfl .nil))))))
      refine Ends.seq ?_
      refine Ends.region ?_
      refine S.val hA (R.move rfl) rfl ?_; clear hA a; intro a hA
      refine S.val hA (R.eql rfl rfl) rfl ?_; clear hA a; intro a hA
      refine S.done ?_
      replace hA : St 25 [(1, _), (4, _), (5, _), (9, _), (20, _)] a := hA.sub ((.cons rfl (.cons rfl (.cons rfl (.cons rfl (.cons rfl .nil))))))
      refine Ends.ite hA rfl (fun hc5 => ?_) (fun hc5 => ?_)
      ·
        refine Ends.seq ?_
        refine Ends.region ?_
        refine S.val hA (R.move rfl) rfl ?_; clear hA a; intro a hA
        refine S.val hA (R.addI rfl rfl (r := l + 1) rfl (by omega)) rfl ?_; clear hA a; intro a hA
        refine S.val hA (R.assign rfl) rfl ?_; clear hA a; intro a hA
        refine S.done ?_
        replace hA : St 25 [(1, _), (4, _), (9, _)] a := hA.sub ((.cons rfl (.cons rfl (.cons rfl .nil))))
        refine Ends.region ?_
        refine S.val hA (R.assign rfl) rfl ?_; clear hA a; intro a hA
        refine S.done ?_
        replace hA : St 25 [(1, _), (4, _), (5, _), (9, _)] a := hA.sub ((.cons rfl (.cons rfl (.cons rfl (.cons rfl .nil)))))
        refine Ends.inBlock ?_
        have hstep := plF_step (q := q) hp3 (by omega) (show 0 < f by omega) l c
        rw [if_pos hc5, if_pos hc5] at hstep
        have hwd := Lib.decode_width_pos s p hp3
        exact hNext ((p + (Utf8.decode s p).2, f - 1, l + 1, 1)) _ _ ((by show f - 1 < f; omega)) ⟨hA.sub ((.cons rfl (.cons rfl (.cons rfl (.cons rfl .nil))))), hM, (by omega), (hstep.symm.trans hpl), (by omega), (by omega)⟩
      ·
        refine Ends.skip ?_
        refine Ends.inBlock ?_
        have hstep := plF_step (q := q) hp3 (by omega) (show 0 < f by omega) l c
        rw [if_neg hc5, if_neg hc5] at hstep
        have hwd := Lib.decode_width_pos s p hp3
        exact hNext ((p + (Utf8.decode s p).2, f - 1, l, c + 1)) _ _ ((by show f - 1 < f; omega)) ⟨hA.sub ((.cons rfl (.cons rfl (.cons rfl (.cons rfl .nil))))), hM, (by omega), (hstep.symm.trans hpl), (by omega), (by omega)⟩
  ·
    refine S.val hA (R.nextF (k := 0) hM rfl rfl hp3) rfl ?_; clear hA a; intro a hA
    refine S.val hA (R.extract (v := .bool false) rfl rfl) rfl ?_; clear hA a; intro a hA
    refine S.done ?_
    replace hA : St 25 [(1, _), (4, _), (5, _), (9, _), (10, _), (11, _)] a := hA.sub ((.cons rfl (.cons rfl (.cons rfl (.cons rfl (.cons rfl (.cons rfl .nil)))))))
    refine Ends.seq ?_
    refine Ends.condF hA rfl ?_
    refine Ends.exit rfl ?_
    replace hA : St 25 [(4, _), (5, _)] a := hA.sub ((.cons rfl (.cons rfl .nil)))
    refine Ends.seq ?_
    refine Ends.region ?_
    refine S.val hA (R.move rfl) rfl ?_; clear hA a; intro a hA
    refine S.val hA (R.move rfl) rfl ?_; clear hA a; intro a hA
    refine S.val hA (R.assign rfl) rfl ?_; clear hA a; intro a hA
    refine S.val hA (R.assign rfl) rfl ?_; clear hA a; intro a hA
    refine S.done ?_
    replace hA : St 25 [(4, _), (5, _)] a := hA.sub ((.cons rfl (.cons rfl .nil)))
    refine Ends.ret2 Tryd.func32 Tryd.results32 hA rfl rfl ?_
    have e0 : plI s q = (l, c) := by rw [← hpl]; exact plF_stop (fun h => by omega) _ _ _
    rw [e0]
    exact ⟨rfl, hM.nilL.below⟩
theorem below_gr (w : World) (k : Nat) (os : Array Obj) : Below w.heap.size w (Sort.grow (w.drewN k) os) :=
  ⟨rfl, rfl, rfl, by simp [Sort.grow], fun b hb => by show (w.heap ++ os)[b]? = w.heap[b]?; rw [Array.getElem?_append_left hb]⟩
theorem itoa_any (n : Int) (h : -9223372036854775808 ≤ n ∧ n ≤ 9223372036854775807) (w : World) (htab : Lib.TabIs Tryd.prog w "internal/strconv.uint64pow10" .u64 Lib.pow10Tab) : Calls Tryd.prog 60 #[.int .i64 n] w fun e w' => e = .returned (.string ⟨(Lib.itoa n).toArray⟩) ∧ Below w.heap.size w w' :=
  (Tryd.strconv_Itoa n h.1 h.2 w htab).mono fun e w' ⟨he, k, os, hw⟩ => ⟨he, hw ▸ below_gr w k os⟩
set_option maxRecDepth 100000 in
set_option maxHeartbeats 400000 in
theorem write_any (n : Int) (h : -9223372036854775808 ≤ n ∧ n ≤ 9223372036854775807) (w : World) (htab : Lib.TabIs Tryd.prog w "internal/strconv.uint64pow10" .u64 Lib.pow10Tab) :
    Calls Tryd.prog 43 #[.int .i64 n] w fun e w' => e = .returned (.string ⟨(Lib.itoa n).toArray⟩) ∧ Below w.heap.size w w' := by
  have hM := Mem.start w
  refine Calls.of_ends (vs := [.int .i64 n]) Tryd.func43 rfl Tryd.ntmps43 rfl ?_
  intro a hA
  replace hA : St 5 [(0, _)] a := hA
  refine Ends.seq ?_
  refine Ends.region ?_
  refine S.val hA (R.assign rfl) rfl ?_; clear hA a; intro a hA
  refine S.done ?_
  replace hA : St 5 [(0, _)] a := hA.sub ((.cons rfl .nil))
  refine Ends.seq ?_
  refine Ends.region ?_
  refine S.val hA (R.move rfl) rfl ?_; clear hA a; intro a hA
  refine S.call hA (R.callF Tryd.func60 rfl rfl rfl) rfl (itoa_any n (by omega) _ (tab_below htab hM.nilL.below)) ?_; clear hA a
  rintro e w1 ⟨rfl, hb⟩
  replace hM := hM.callB hb; clear hb
  refine ⟨.string (⟨(Lib.itoa n).toArray⟩), rfl, fun a hA => ?_⟩
  refine S.val hA (R.assign rfl) rfl ?_; clear hA a; intro a hA
  refine S.done ?_
  replace hA : St 5 [(2, _)] a := hA.sub ((.cons rfl .nil))
  refine Ends.ret1 Tryd.func43 Tryd.results43 hA rfl ?_
  exact ⟨rfl, hM.nilL.below⟩
theorem dg1 : readI ⟨#[97, 49, 50, 32]⟩ 1 = (12, 3, 0) := by kernel_rfl
theorem dg2 : plI ⟨#[97, 10, 195, 188, 98]⟩ 4 = (2, 2) := by kernel_rfl
theorem dg3 : (⟨(Lib.itoa (-9223372036854775808)).toArray⟩ : ByteArray) = ⟨#[45, 57, 50, 50, 51, 51, 55, 50, 48, 51, 54, 56, 53, 52, 55, 55, 53, 56, 48, 56]⟩ := by kernel_rfl
end Go.Proofs.YtakfcekfmdjklaaDoor
