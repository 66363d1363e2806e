/-
  KurganDrawn, part 2 of 5: what the code computes, and plain laws; no condition beside those that each theorem tells.
-/
import Derived.Test.YtakfcekfmdjklaaDoorKurganDrawnA
import Derived.Laws.StructEq
namespace Go.Proofs.YtakfcekfmdjklaaDoor
open Go.RowKit
theorem ba_nil {d : ByteArray} (h : d.size = 0) : d = ⟨#[]⟩ := by
  obtain ⟨l⟩ := d
  have : l.size = 0 := h
  rw [Array.size_eq_zero_iff.1 this]
theorem i32_wrap {x : Int} (h : -2147483648 ≤ x ∧ x ≤ 2147483647) : IntKind.i32.wrap x = x := by rw [IntKind.wrap_i32]; omega
theorem i64_wrap {x : Int} (h : -9223372036854775808 ≤ x ∧ x ≤ 9223372036854775807) : IntKind.i64.wrap x = x := by rw [IntKind.wrap_i64]; omega
set_option maxRecDepth 100000 in
set_option maxHeartbeats 400000 in
theorem kind_any (r : Int) (w : World) :
  Calls Tryd.prog 86 #[.int .i32 r] w fun e w' => e = .returned (.int .i64 (kindI r)) ∧ Below w.heap.size w w' := by
 have hM := Mem.start w
 refine Calls.of_ends (vs := [.int .i32 r]) Tryd.func86 rfl Tryd.ntmps86 rfl ?_
 intro a hA
 replace hA : St 35 [(0, _)] a := hA
 refine Ends.seq (Ends.region ?_)
 refine S.val hA (R.assign rfl) rfl ?_; clear hA a; intro a hA
 refine S.done ?_
 refine Ends.seq (Ends.block (Ends.seq (Ends.seq (Ends.region ?_))))
 refine S.val hA (R.move rfl) rfl ?_; clear hA a; intro a hA
 refine S.val hA (R.eql rfl rfl) rfl ?_; clear hA a; intro a hA
 refine S.val hA (R.assign rfl) rfl ?_; clear hA a; intro a hA
 refine S.done ?_
 refine Ends.ite hA rfl (fun hc1 => ?_) (fun hc1 => ?_)
 ·
  rw [decide_eq_true hc1] at hA
  refine Ends.skip ?_
  refine Ends.condT hA rfl ?_
  refine Ends.seq (Ends.region ?_)
  refine S.val hA (R.assign rfl) rfl ?_; clear hA a; intro a hA
  refine S.done ?_
  replace hA : St 35 [(2, _)] a := hA.sub ((.cons rfl .nil))
  refine Ends.ret1 Tryd.func86 Tryd.results86 hA rfl ?_
  have e0 : (1 : Int) = kindI r := by
   unfold kindI
   repeat' split
   all_goals first | rfl | omega
  exact ⟨congrArg (fun z => Ending.returned (Value.int .i64 z)) e0, hM.nilL.below⟩
 ·
  rw [decide_eq_false hc1] at hA
  refine Ends.seq (Ends.region ?_)
  refine S.val hA (R.move rfl) rfl ?_; clear hA a; intro a hA
  refine S.val hA (R.eql rfl rfl) rfl ?_; clear hA a; intro a hA
  refine S.val hA (R.assign rfl) rfl ?_; clear hA a; intro a hA
  refine S.done ?_
  replace hA : St 35 [(0, _), (3, _)] a := hA.sub ((.cons rfl (.cons rfl .nil)))
  refine Ends.ite hA rfl (fun hc2 => ?_) (fun hc2 => ?_)
  ·
   rw [decide_eq_true hc2] at hA
   refine Ends.skip ?_
   refine Ends.condT hA rfl ?_
   refine Ends.seq (Ends.region ?_)
   refine S.val hA (R.assign rfl) rfl ?_; clear hA a; intro a hA
   refine S.done ?_
   refine Ends.ret1 Tryd.func86 Tryd.results86 hA rfl ?_
   have e0 : (1 : Int) = kindI r := by
    unfold kindI
    repeat' split
    all_goals first | rfl | omega
   exact ⟨congrArg (fun z => Ending.returned (Value.int .i64 z)) e0, hM.nilL.below⟩
  ·
   rw [decide_eq_false hc2] at hA
   refine Ends.seq (Ends.region ?_)
   refine S.val hA (R.move rfl) rfl ?_; clear hA a; intro a hA
   refine S.val hA (R.eql rfl rfl) rfl ?_; clear hA a; intro a hA
   refine S.val hA (R.assign rfl) rfl ?_; clear hA a; intro a hA
   refine S.done ?_
   refine Ends.ite hA rfl (fun hc3 => ?_) (fun hc3 => ?_)
   ·
    rw [decide_eq_true hc3] at hA
    refine Ends.skip ?_
    refine Ends.condT hA rfl ?_
    refine Ends.seq (Ends.region ?_)
    refine S.val hA (R.assign rfl) rfl ?_; clear hA a; intro a hA
    refine S.done ?_
    replace hA : St 35 [(2, _)] a := hA.sub ((.cons rfl .nil))
    refine Ends.ret1 Tryd.func86 Tryd.results86 hA rfl ?_
    have e0 : (1 : Int) = kindI r := by
     unfold kindI
     repeat' split
     all_goals first | rfl | omega
    exact ⟨congrArg (fun z => Ending.returned (Value.int .i64 z)) e0, hM.nilL.below⟩
   ·
    rw [decide_eq_false hc3] at hA
    refine Ends.region ?_
    refine S.val hA (R.move rfl) rfl ?_; clear hA a; intro a hA
    refine S.val hA (R.eql rfl rfl) rfl ?_; clear hA a; intro a hA
    refine S.val hA (R.assign rfl) rfl ?_; clear hA a; intro a hA
    refine S.done ?_
    replace hA : St 35 [(0, _), (3, _)] a := hA.sub ((.cons rfl (.cons rfl .nil)))
    refine Ends.ite hA rfl (fun hc4 => ?_) (fun hc4 => ?_)
    ·
     rw [decide_eq_true hc4] at hA
     refine Ends.seq (Ends.region ?_)
     refine S.val hA (R.assign rfl) rfl ?_; clear hA a; intro a hA
     refine S.done ?_
     refine Ends.ret1 Tryd.func86 Tryd.results86 hA rfl ?_
     have e0 : (1 : Int) = kindI r := by
      unfold kindI
      repeat' split
      all_goals first | rfl | omega
     exact ⟨congrArg (fun z => Ending.returned (Value.int .i64 z)) e0, hM.nilL.below⟩
    ·
     rw [decide_eq_false hc4] at hA
     refine Ends.seq ?_
     refine Ends.cut (fun (a : Act) (wv : World) => St 35 [(0, .int .i32 r), (12, .bool (decide ((48 ≤ r ∧ r ≤ 57))))] a ∧ Mem w nof [] wv) ?_ (fun k2 hJ => ?_)
     ·
      clear hA hM a; rintro a w1 ⟨hA, hM⟩
      refine Ends.ite hA rfl (fun hc5 => ?_) (fun hc5 => ?_)
      ·
       rw [decide_eq_true hc5] at hA
       refine Ends.seq (Ends.region ?_)
       refine S.val hA (R.assign rfl) rfl ?_; clear hA a; intro a hA
       refine S.done ?_
       refine Ends.ret1 Tryd.func86 Tryd.results86 hA rfl ?_
       have e0 : (2 : Int) = kindI r := by
        unfold kindI
        repeat' split
        all_goals first | rfl | omega
       exact ⟨congrArg (fun z => Ending.returned (Value.int .i64 z)) e0, hM.nilL.below⟩
      ·
       rw [decide_eq_false hc5] at hA
       refine Ends.seq (Ends.seq ?_)
       refine Ends.cut (fun (a : Act) (wv : World) => St 35 [(0, .int .i32 r), (19, .bool (decide ((65 ≤ r ∧ r ≤ 90))))] a ∧ Mem w nof [] wv) ?_ (fun k2 hJ => ?_)
       ·
        clear hA hM a; rintro a w2 ⟨hA, hM⟩
        refine Ends.ite hA rfl (fun hc6 => ?_) (fun hc6 => ?_)
        ·
         rw [decide_eq_true hc6] at hA
         refine Ends.skip ?_
         refine Ends.condT hA rfl ?_
         refine Ends.seq (Ends.region ?_)
         refine S.val hA (R.assign rfl) rfl ?_; clear hA a; intro a hA
         refine S.done ?_
         refine Ends.ret1 Tryd.func86 Tryd.results86 hA rfl ?_
         have e0 : (3 : Int) = kindI r := by
          unfold kindI
          repeat' split
          all_goals first | rfl | omega
         exact ⟨congrArg (fun z => Ending.returned (Value.int .i64 z)) e0, hM.nilL.below⟩
        ·
         rw [decide_eq_false hc6] at hA
         refine Ends.cut (fun (a : Act) (wv : World) => St 35 [(0, .int .i32 r), (19, .bool (decide ((97 ≤ r ∧ r ≤ 122))))] a ∧ Mem w nof [] wv) ?_ (fun k2 hJ => ?_)
         ·
          clear hA hM a; rintro a w3 ⟨hA, hM⟩
          refine Ends.ite hA rfl (fun hc7 => ?_) (fun hc7 => ?_)
          ·
           rw [decide_eq_true hc7] at hA
           refine Ends.seq (Ends.region ?_)
           refine S.val hA (R.assign rfl) rfl ?_; clear hA a; intro a hA
           refine S.done ?_
           refine Ends.ret1 Tryd.func86 Tryd.results86 hA rfl ?_
           have e0 : (3 : Int) = kindI r := by
            unfold kindI
            repeat' split
            all_goals first | rfl | omega
           exact ⟨congrArg (fun z => Ending.returned (Value.int .i64 z)) e0, hM.nilL.below⟩
          ·
           rw [decide_eq_false hc7] at hA
           refine Ends.seq (Ends.region ?_)
           refine S.val hA (R.move rfl) rfl ?_; clear hA a; intro a hA
           refine S.val hA (R.eql rfl rfl) rfl ?_; clear hA a; intro a hA
           refine S.val hA (R.assign rfl) rfl ?_; clear hA a; intro a hA
           refine S.done ?_
           replace hA : St 35 [(32, _)] a := hA.sub ((.cons rfl .nil))
           refine Ends.ite hA rfl (fun hc8 => ?_) (fun hc8 => ?_)
           ·
            rw [decide_eq_true hc8] at hA
            refine Ends.seq (Ends.region ?_)
            refine S.val hA (R.assign rfl) rfl ?_; clear hA a; intro a hA
            refine S.done ?_
            refine Ends.ret1 Tryd.func86 Tryd.results86 hA rfl ?_
            have e0 : (4 : Int) = kindI r := by
             unfold kindI
             repeat' split
             all_goals first | rfl | omega
            exact ⟨congrArg (fun z => Ending.returned (Value.int .i64 z)) e0, hM.nilL.below⟩
           ·
            rw [decide_eq_false hc8] at hA
            refine Ends.skip (Ends.inBlock (Ends.seq (Ends.region ?_)))
            refine S.val hA (R.assign rfl) rfl ?_; clear hA a; intro a hA
            refine S.done ?_
            refine Ends.ret1 Tryd.func86 Tryd.results86 hA rfl ?_
            have e0 : (0 : Int) = kindI r := by
             unfold kindI
             repeat' split
             all_goals first | rfl | omega
            exact ⟨congrArg (fun z => Ending.returned (Value.int .i64 z)) e0, hM.nilL.below⟩
         ·
          refine Ends.region ?_
          refine S.val hA (R.move rfl) rfl ?_; clear hA a; intro a hA
          refine S.val hA (R.geq rfl rfl) rfl ?_; clear hA a; intro a hA
          refine S.val hA (R.move rfl) rfl ?_; clear hA a; intro a hA
          refine hA.split (d := 28) rfl ?_ ?_
          ·
           clear hA; intro hg9 hA
           refine S.valg (dj := 28) hA (by kernel_rfl) rfl (R.move rfl) rfl ?_; clear hA a; intro a hA
           refine S.valg (dj := 28) hA (by kernel_rfl) rfl (R.leq rfl rfl) rfl ?_; clear hA a; intro a hA
           refine S.val hA (R.pickT rfl rfl) rfl ?_; clear hA a; intro a hA
           refine S.val hA (R.assign rfl) rfl ?_; clear hA a; intro a hA
           refine S.done ?_
           replace hA : St 35 [(0, _), (19, _)] a := hA.sub ((.cons rfl (.cons rfl .nil)))
           exact hJ _ _ ⟨hA.sub (.cons rfl (.cons (by first | rfl | exact congrArg (fun b => some (Value.bool b)) (by first | exact decide_eq_decide.2 (by omega) | exact or_bool (by omega) | exact and_bool (by omega) | (simp; done) | (simp [hg9]; done) | (have h80 := hg9; (try simp at h80); simp [h80]; done) | exact (decide_eq_false (fun h9 => hg9 h9.1)).symm)) .nil)), hM⟩
          ·
           clear hA; intro hg9 hA
           refine S.no (dj := 28) hA (by kernel_rfl) rfl rfl rfl ?_; clear hA a; intro a hA
           refine S.no (dj := 28) hA (by kernel_rfl) rfl rfl rfl ?_; clear hA a; intro a hA
           refine S.val hA (R.pickF rfl rfl) rfl ?_; clear hA a; intro a hA
           refine S.val hA (R.assign rfl) rfl ?_; clear hA a; intro a hA
           refine S.done ?_
           replace hA : St 35 [(0, _), (19, _)] a := hA.sub ((.cons rfl (.cons rfl .nil)))
           exact hJ _ _ ⟨hA.sub (.cons rfl (.cons (by first | rfl | exact congrArg (fun b => some (Value.bool b)) (by first | exact decide_eq_decide.2 (by omega) | exact or_bool (by omega) | exact and_bool (by omega) | (simp; done) | (simp [hg9]; done) | (have h80 := hg9; (try simp at h80); simp [h80]; done) | exact (decide_eq_false (fun h9 => hg9 h9.1)).symm)) .nil)), hM⟩
       ·
        refine Ends.region ?_
        refine S.val hA (R.move rfl) rfl ?_; clear hA a; intro a hA
        refine S.val hA (R.geq rfl rfl) rfl ?_; clear hA a; intro a hA
        refine S.val hA (R.move rfl) rfl ?_; clear hA a; intro a hA
        refine hA.split (d := 22) rfl ?_ ?_
        ·
         clear hA; intro hg10 hA
         refine S.valg (dj := 22) hA (by kernel_rfl) rfl (R.move rfl) rfl ?_; clear hA a; intro a hA
         refine S.valg (dj := 22) hA (by kernel_rfl) rfl (R.leq rfl rfl) rfl ?_; clear hA a; intro a hA
         refine S.val hA (R.pickT rfl rfl) rfl ?_; clear hA a; intro a hA
         refine S.val hA (R.assign rfl) rfl ?_; clear hA a; intro a hA
         refine S.done ?_
         replace hA : St 35 [(0, _), (19, _)] a := hA.sub ((.cons rfl (.cons rfl .nil)))
         exact hJ _ _ ⟨hA.sub (.cons rfl (.cons (by first | rfl | exact congrArg (fun b => some (Value.bool b)) (by first | exact decide_eq_decide.2 (by omega) | exact or_bool (by omega) | exact and_bool (by omega) | (simp; done) | (simp [hg10]; done) | (have h80 := hg10; (try simp at h80); simp [h80]; done) | exact (decide_eq_false (fun h9 => hg10 h9.1)).symm)) .nil)), hM⟩
        ·
         clear hA; intro hg10 hA
         refine S.no (dj := 22) hA (by kernel_rfl) rfl rfl rfl ?_; clear hA a; intro a hA
         refine S.no (dj := 22) hA (by kernel_rfl) rfl rfl rfl ?_; clear hA a; intro a hA
         refine S.val hA (R.pickF rfl rfl) rfl ?_; clear hA a; intro a hA
         refine S.val hA (R.assign rfl) rfl ?_; clear hA a; intro a hA
         refine S.done ?_
         replace hA : St 35 [(0, _), (19, _)] a := hA.sub ((.cons rfl (.cons rfl .nil)))
         exact hJ _ _ ⟨hA.sub (.cons rfl (.cons (by first | rfl | exact congrArg (fun b => some (Value.bool b)) (by first | exact decide_eq_decide.2 (by omega) | exact or_bool (by omega) | exact and_bool (by omega) | (simp; done) | (simp [hg10]; done) | (have h80 := hg10; (try simp at h80); simp [h80]; done) | exact (decide_eq_false (fun h9 => hg10 h9.1)).symm)) .nil)), hM⟩
     ·
      refine Ends.region ?_
      refine S.val hA (R.move rfl) rfl ?_; clear hA a; intro a hA
      refine S.val hA (R.geq rfl rfl) rfl ?_; clear hA a; intro a hA
      refine S.val hA (R.move rfl) rfl ?_; clear hA a; intro a hA
      refine hA.split (d := 15) rfl ?_ ?_
      ·
       clear hA; intro hg11 hA
       refine S.valg (dj := 15) hA (by kernel_rfl) rfl (R.move rfl) rfl ?_; clear hA a; intro a hA
       refine S.valg (dj := 15) hA (by kernel_rfl) rfl (R.leq rfl rfl) rfl ?_; clear hA a; intro a hA
       refine S.val hA (R.pickT rfl rfl) rfl ?_; clear hA a; intro a hA
       refine S.val hA (R.assign rfl) rfl ?_; clear hA a; intro a hA
       refine S.done ?_
       replace hA : St 35 [(0, _), (12, _)] a := hA.sub ((.cons rfl (.cons rfl .nil)))
       exact hJ _ _ ⟨hA.sub (.cons rfl (.cons (by first | rfl | exact congrArg (fun b => some (Value.bool b)) (by first | exact decide_eq_decide.2 (by omega) | exact or_bool (by omega) | exact and_bool (by omega) | (simp; done) | (simp [hg11]; done) | (have h80 := hg11; (try simp at h80); simp [h80]; done) | exact (decide_eq_false (fun h9 => hg11 h9.1)).symm)) .nil)), hM⟩
      ·
       clear hA; intro hg11 hA
       refine S.no (dj := 15) hA (by kernel_rfl) rfl rfl rfl ?_; clear hA a; intro a hA
       refine S.no (dj := 15) hA (by kernel_rfl) rfl rfl rfl ?_; clear hA a; intro a hA
       refine S.val hA (R.pickF rfl rfl) rfl ?_; clear hA a; intro a hA
       refine S.val hA (R.assign rfl) rfl ?_; clear hA a; intro a hA
       refine S.done ?_
       replace hA : St 35 [(0, _), (12, _)] a := hA.sub ((.cons rfl (.cons rfl .nil)))
       exact hJ _ _ ⟨hA.sub (.cons rfl (.cons (by first | rfl | exact congrArg (fun b => some (Value.bool b)) (by first | exact decide_eq_decide.2 (by omega) | exact or_bool (by omega) | exact and_bool (by omega) | (simp; done) | (simp [hg11]; done) | (have h80 := hg11; (try simp at h80); simp [h80]; done) | exact (decide_eq_false (fun h9 => hg11 h9.1)).symm)) .nil)), hM⟩
set_option maxRecDepth 100000 in
set_option maxHeartbeats 400000 in
theorem run_any (s : ByteArray) (w : World) :
  Calls Tryd.prog 94 #[.string s] w fun e w' => e = .returned (.int .i64 (dgs s 0 : Int)) ∧ Below w.heap.size w w' := by
 have hM := Mem.start w
 refine Calls.of_ends (vs := [.string s]) Tryd.func94 rfl Tryd.ntmps94 rfl ?_
 intro a hA
 replace hA : St 17 [(0, _)] a := hA
 refine Ends.seq (Ends.region ?_)
 refine S.val hA (R.assign rfl) rfl ?_; clear hA a; intro a hA
 refine S.done ?_
 refine Ends.seq (Ends.seq (Ends.region ?_))
 refine S.val hA (R.move rfl) rfl ?_; clear hA a; intro a hA
 refine S.rangeS hA hM Tryd.underlying9 rfl rfl ?_; clear hA hM a; intro b1 w1 hb2 hM a hA
 replace hM : Mem _ _ [itC b1 s 0] _ := hM
 refine S.done ?_
 refine Ends.block ?_
 refine Ends.loop (σ := Nat) (fun p (a : Act) (wv : World) => St 17 [(0, .string s), (6, .pointer (some ⟨b1, 0, none⟩))] a ∧ Mem w nof [itC b1 s p] wv ∧ (p ≤ s.size) ∧ (∀ j, j < p → dig s j)) (fun p => s.size - p) 0 ⟨hA.sub ((.cons rfl (.cons rfl .nil))), hM, (Nat.zero_le _), (fun j hj => absurd hj (Nat.not_lt_zero j))⟩ ?_
 clear hA hM a
 rintro p a w2 ⟨hA, hM, hp, hd⟩ hNext
 refine Ends.seq (Ends.region ?_)
 by_cases hp3 : p < s.size
 ·
  refine S.nextT (k := 0) hA hM rfl rfl hp3 rfl ?_; clear hA hM a; intro w3 hM a hA
  replace hM : Mem _ _ [itC b1 s ((p + (Utf8.decode s p).2))] _ := hM
  refine S.val hA (R.extract (v := .bool true) rfl rfl) rfl ?_; clear hA a; intro a hA
  refine S.done ?_
  refine Ends.seq ?_
  refine Ends.condT hA rfl ?_
  refine Ends.skip (Ends.block (Ends.seq (Ends.region ?_)))
  refine S.val hA (R.extract (v := .int .i64 ((p : Int))) rfl rfl) rfl ?_; clear hA a; intro a hA
  refine S.val hA (R.extract (v := .int .i32 (((Utf8.decode s p).1 : Int))) rfl rfl) rfl ?_; clear hA a; intro a hA
  refine S.val hA (R.assign rfl) rfl ?_; clear hA a; intro a hA
  refine S.val hA (R.assign rfl) rfl ?_; clear hA a; intro a hA
  refine S.done ?_
  replace hA : St 17 [(0, _), (3, _), (4, _), (6, _)] a := hA.sub ((.cons rfl (.cons rfl (.cons rfl (.cons rfl .nil)))))
  refine Ends.seq (Ends.region ?_)
  refine S.val hA (R.move rfl) rfl ?_; clear hA a; intro a hA
  refine S.call hA (R.callF Tryd.func86 rfl rfl rfl) rfl (kind_any (((Utf8.decode s p).1 : Int)) _) ?_; clear hA a
  rintro e w4 ⟨rfl, hb⟩
  replace hM := hM.callB hb; clear hb
  refine ⟨.int .i64 (kindI (((Utf8.decode s p).1 : Int))), rfl, fun a hA => ?_⟩
  refine S.val hA (R.neq rfl rfl) rfl ?_; clear hA a; intro a hA
  refine S.done ?_
  refine Ends.ite hA rfl (fun hc4 => ?_) (fun hc4 => ?_)
  ·
   refine Ends.seq (Ends.region ?_)
   refine S.val hA (R.move rfl) rfl ?_; clear hA a; intro a hA
   refine S.val hA (R.assign rfl) rfl ?_; clear hA a; intro a hA
   refine S.done ?_
   replace hA : St 17 [(0, _), (2, _), (6, _)] a := hA.sub ((.cons rfl (.cons rfl (.cons rfl .nil))))
   refine Ends.ret1 Tryd.func94 Tryd.results94 hA rfl ?_
   have e0 : dgs s 0 = p := by
    exact dgs_uniq (fun j hj => by rw [Nat.zero_add]; exact hd j hj) (by rw [Nat.zero_add]; exact (fun h => hc4 ((dec_dig hp3).1.2 h)))
   rw [e0]
   exact ⟨rfl, hM.nilL.below⟩
  ·
   refine Ends.skip (Ends.inBlock ?_)
   have hdg := (dec_dig hp3).1.1 (Classical.byContradiction hc4)
   rw [((dec_dig hp3).2 hdg).1] at hM
   exact hNext ((p + 1)) _ _ ((by show s.size - (p + 1) < s.size - p; omega)) ⟨hA.sub ((.cons rfl (.cons rfl .nil))), hM, (by omega), (fun j hj => by rcases Nat.lt_or_ge j p with q | q; exact hd j q; have e : j = p := (by omega); exact e ▸ hdg)⟩
 ·
  refine S.val hA (R.nextF (k := 0) hM rfl rfl hp3) rfl ?_; clear hA a; intro a hA
  refine S.val hA (R.extract (v := .bool false) rfl rfl) rfl ?_; clear hA a; intro a hA
  refine S.done ?_
  refine Ends.seq ?_
  refine Ends.condF hA rfl ?_
  refine Ends.exit rfl ?_
  refine Ends.seq (Ends.region ?_)
  refine S.val hA (R.move rfl) rfl ?_; clear hA a; intro a hA
  refine S.val hA (R.lenStr Tryd.underlying9 rfl rfl) rfl ?_; clear hA a; intro a hA
  refine S.val hA (R.assign rfl) rfl ?_; clear hA a; intro a hA
  refine S.done ?_
  replace hA : St 17 [(2, _)] a := hA.sub ((.cons rfl .nil))
  refine Ends.ret1 Tryd.func94 Tryd.results94 hA rfl ?_
  have hpe : p = s.size := by omega
  have e0 : dgs s 0 = s.size := by
   rw [← hpe]
   exact dgs_uniq (fun j hj => by rw [Nat.zero_add]; exact hd j hj) (by rw [Nat.zero_add]; exact (fun h => absurd h.1 (by omega)))
  rw [e0]
  exact ⟨rfl, hM.nilL.below⟩
theorem run_at (s : ByteArray) (x : Nat) (w : World) : Calls Tryd.prog 94 #[.string (s.extract x s.size)] w fun e w' => e = .returned (.int .i64 (dgs s x : Int)) ∧ Below w.heap.size w w' := by
  have h := run_any (s.extract x s.size) w
  rwa [dgs_ext] at h
set_option maxRecDepth 100000 in
set_option maxHeartbeats 400000 in
theorem read_out (s : ByteArray) (p : Int) (h : p < 0 ∨ (s.size : Int) < p) (w : World) :
  Calls Tryd.prog 88 #[.string s, .int .i64 p] w fun e w' => e = .returned (.tuple #[.int .i64 (0), .int .i64 (0), .int .i64 (1)]) ∧ Below w.heap.size w w' := by
 have hM := Mem.start w
 refine Calls.of_ends (vs := [.string s, .int .i64 p]) Tryd.func88 rfl Tryd.ntmps88 rfl ?_
 intro a hA
 replace hA : St 58 [(0, _), (1, _)] a := hA
 refine Ends.seq (Ends.region ?_)
 refine S.val hA (R.assign rfl) rfl ?_; clear hA a; intro a hA
 refine S.val hA (R.assign rfl) rfl ?_; clear hA a; intro a hA
 refine S.val hA (R.assign rfl) rfl ?_; clear hA a; intro a hA
 refine S.done ?_
 refine Ends.seq (Ends.seq ?_)
 refine Ends.cut (fun (a : Act) (wv : World) => St 58 [(0, .string s), (1, .int .i64 p), (4, .int .i64 0), (17, .bool (decide ((p < 0 ∨ ((s.size : Int)) < p))))] a ∧ Mem w nof [] wv) ?_ (fun k2 hJ => ?_)
 ·
  clear hA hM a; rintro a w1 ⟨hA, hM⟩
  refine Ends.ite hA rfl (fun hc1 => ?_) (fun hc1 => ?_)
  ·
   refine Ends.seq (Ends.region ?_)
   refine S.val hA (R.assign rfl) rfl ?_; clear hA a; intro a hA
   refine S.val hA (R.assign rfl) rfl ?_; clear hA a; intro a hA
   refine S.val hA (R.assign rfl) rfl ?_; clear hA a; intro a hA
   refine S.done ?_
   refine Ends.ret3 Tryd.func88 Tryd.results88 hA rfl rfl rfl ?_
   exact ⟨rfl, hM.nilL.below⟩
  · exfalso; omega
 ·
  refine Ends.region ?_
  refine S.val hA (R.move rfl) rfl ?_; clear hA a; intro a hA
  refine S.val hA (R.lss rfl rfl) rfl ?_; clear hA a; intro a hA
  refine S.val hA (R.move rfl) rfl ?_; clear hA a; intro a hA
  refine hA.split (d := 12) rfl ?_ ?_
  ·
   clear hA; intro hg2 hA
   refine S.no (dj := 12) hA (by kernel_rfl) rfl rfl rfl ?_; clear hA a; intro a hA
   refine S.no (dj := 12) hA (by kernel_rfl) rfl rfl rfl ?_; clear hA a; intro a hA
   refine S.no (dj := 12) hA (by kernel_rfl) rfl rfl rfl ?_; clear hA a; intro a hA
   refine S.no (dj := 12) hA (by kernel_rfl) rfl rfl rfl ?_; clear hA a; intro a hA
   refine S.val hA (R.pickT rfl rfl) rfl ?_; clear hA a; intro a hA
   refine S.done ?_
   replace hA : St 58 [(0, _), (1, _), (4, _), (17, _)] a := hA.sub ((.cons rfl (.cons rfl (.cons rfl (.cons rfl .nil)))))
   exact hJ _ _ ⟨hA.sub (.cons rfl (.cons rfl (.cons rfl (.cons (by first | rfl | exact congrArg (fun b => some (Value.bool b)) (by first | exact decide_eq_decide.2 (by omega) | exact or_bool (by omega) | exact and_bool (by omega) | (simp; done) | (simp [hg2]; done) | (have h80 := hg2; (try simp at h80); simp [h80]; done) | exact (decide_eq_false (fun h9 => hg2 h9.1)).symm)) .nil)))), hM⟩
  ·
   clear hA; intro hg2 hA
   refine S.valg (dj := 12) hA (by kernel_rfl) rfl (R.move rfl) rfl ?_; clear hA a; intro a hA
   refine S.valg (dj := 12) hA (by kernel_rfl) rfl (R.move rfl) rfl ?_; clear hA a; intro a hA
   refine S.valg (dj := 12) hA (by kernel_rfl) rfl (R.lenStr Tryd.underlying9 rfl rfl) rfl ?_; clear hA a; intro a hA
   refine S.valg (dj := 12) hA (by kernel_rfl) rfl (R.gtr rfl rfl) rfl ?_; clear hA a; intro a hA
   refine S.val hA (R.pickF rfl rfl) rfl ?_; clear hA a; intro a hA
   refine S.done ?_
   replace hA : St 58 [(0, _), (1, _), (4, _), (17, _)] a := hA.sub ((.cons rfl (.cons rfl (.cons rfl (.cons rfl .nil)))))
   exact hJ _ _ ⟨hA.sub (.cons rfl (.cons rfl (.cons rfl (.cons (by first | rfl | exact congrArg (fun b => some (Value.bool b)) (by first | exact decide_eq_decide.2 (by omega) | exact or_bool (by omega) | exact and_bool (by omega) | (simp; done) | (simp [hg2]; done) | (have h80 := hg2; (try simp at h80); simp [h80]; done) | exact (decide_eq_false (fun h9 => hg2 h9.1)).symm)) .nil)))), hM⟩
set_option maxRecDepth 100000 in
set_option maxHeartbeats 400000 in
theorem read_none (s : ByteArray) (x k : Nat) (hx : x ≤ s.size) (hk : dgs s x = k) (hsz : s.size ≤ 9223372036854775807) (h : k = 0) (w : World) :
  Calls Tryd.prog 88 #[.string s, .int .i64 ((x : Int))] w fun e w' => e = .returned (.tuple #[.int .i64 (0), .int .i64 (0), .int .i64 (4)]) ∧ Below w.heap.size w w' := by
 have hM := Mem.start w
 refine Calls.of_ends (vs := [.string s, .int .i64 ((x : Int))]) Tryd.func88 rfl Tryd.ntmps88 rfl ?_
 intro a hA
 replace hA : St 58 [(0, _), (1, _)] a := hA
 refine Ends.seq (Ends.region ?_)
 refine S.val hA (R.assign rfl) rfl ?_; clear hA a; intro a hA
 refine S.val hA (R.assign rfl) rfl ?_; clear hA a; intro a hA
 refine S.val hA (R.assign rfl) rfl ?_; clear hA a; intro a hA
 refine S.done ?_
 refine Ends.seq (Ends.seq (Ends.region ?_))
 refine S.val hA (R.move rfl) rfl ?_; clear hA a; intro a hA
 refine S.val hA (R.ff (R.lss rfl rfl) (by omega)) rfl ?_; clear hA a; intro a hA
 refine S.val hA (R.move rfl) rfl ?_; clear hA a; intro a hA
 refine S.valg (dj := 12) hA (by kernel_rfl) rfl (R.move rfl) rfl ?_; clear hA a; intro a hA
 refine S.valg (dj := 12) hA (by kernel_rfl) rfl (R.move rfl) rfl ?_; clear hA a; intro a hA
 refine S.valg (dj := 12) hA (by kernel_rfl) rfl (R.lenStr Tryd.underlying9 rfl rfl) rfl ?_; clear hA a; intro a hA
 refine S.valg (dj := 12) hA (by kernel_rfl) rfl (R.ff (R.gtr rfl rfl) (by omega)) rfl ?_; clear hA a; intro a hA
 refine S.val hA (R.pickF rfl rfl) rfl ?_; clear hA a; intro a hA
 refine S.done ?_
 replace hA : St 58 [(0, _), (1, _), (4, _), (17, _)] a := hA.sub ((.cons rfl (.cons rfl (.cons rfl (.cons rfl .nil)))))
 refine Ends.condF hA rfl ?_
 refine Ends.skip (Ends.seq (Ends.region ?_))
 refine S.val hA (R.move rfl) rfl ?_; clear hA a; intro a hA
 refine S.val hA (R.move rfl) rfl ?_; clear hA a; intro a hA
 refine S.val hA (R.to (v := .string ((s.extract x s.size))) (R.sliceSL Tryd.underlying9 rfl rfl (by omega)) (by first | rfl | (congr 2; done) | (congr 2 <;> omega))) rfl ?_; clear hA a; intro a hA
 refine S.val hA (R.assign rfl) rfl ?_; clear hA a; intro a hA
 refine S.done ?_
 replace hA : St 58 [(1, _), (4, _), (7, _)] a := hA.sub ((.cons rfl (.cons rfl (.cons rfl .nil))))
 refine Ends.seq (Ends.region ?_)
 refine S.val hA (R.move rfl) rfl ?_; clear hA a; intro a hA
 refine S.val hA (R.move rfl) rfl ?_; clear hA a; intro a hA
 refine S.call hA (R.callF Tryd.func94 rfl rfl rfl) rfl (run_at s x _) ?_; clear hA a
 rintro e w1 ⟨rfl, hb⟩
 replace hM := hM.callB hb; clear hb
 refine ⟨.int .i64 ((dgs s x : Int)), rfl, fun a hA => ?_⟩
 obtain ⟨d, hd, hdsz, hdb⟩ : ∃ d, (s.extract x s.size).extract 0 (dgs s x) = d ∧ d.size = k ∧ ∀ j, j < k → byt d j = byt s (x + j) := by
  have hle := dgs_le s hx
  rw [hk] at hle ⊢
  have h1 : (s.extract x s.size).size = s.size - x := size_ext (Nat.le_refl _)
  refine ⟨_, rfl, by rw [size_ext (by omega)]; omega, fun j hj => ?_⟩
  rw [byt_ext (by omega) (by omega), Nat.zero_add, byt_ext (by omega) (Nat.le_refl _)]
 have hdg : ∀ j, j < k → dig s (x + j) := fun j hj => (dgs_spec s x).1 j (by omega)
 have hdd : ∀ j, j < k → dig d j := fun j hj => ⟨by omega, by rw [hdb j hj]; exact (hdg j hj).2⟩
 have hle := dgs_le s hx
 rw [hk] at hle
 have h1 : (s.extract x s.size).size = s.size - x := size_ext (Nat.le_refl _)
 refine S.val hA (R.to (v := .string d) (R.sliceSH Tryd.underlying9 rfl rfl (by rw [hk]; omega)) (congrArg Value.string hd)) rfl ?_; clear hA a; intro a hA
 refine S.val hA (R.assign rfl) rfl ?_; clear hA a; intro a hA
 refine S.done ?_
 replace hA : St 58 [(1, _), (4, _), (7, _)] a := hA.sub ((.cons rfl (.cons rfl (.cons rfl .nil))))
 refine Ends.seq (Ends.block (Ends.seq (Ends.region ?_)))
 refine S.val hA (R.move rfl) rfl ?_; clear hA a; intro a hA
 refine S.val hA (R.tt (R.eqlStr rfl rfl) (ba_nil (by omega))) rfl ?_; clear hA a; intro a hA
 refine S.val hA (R.move rfl) rfl ?_; clear hA a; intro a hA
 refine S.no (dj := 28) hA (by kernel_rfl) rfl rfl rfl ?_; clear hA a; intro a hA
 refine S.no (dj := 28) hA (by kernel_rfl) rfl rfl rfl ?_; clear hA a; intro a hA
 refine S.no (dj := 28) hA (by kernel_rfl) rfl rfl rfl ?_; clear hA a; intro a hA
 refine S.no (dj := 28) hA (by kernel_rfl) rfl rfl rfl ?_; clear hA a; intro a hA
 refine S.noU (dj := 32) hA (by kernel_rfl) rfl rfl ?_; clear hA a; intro a hA
 refine S.noU (dj := 32) hA (by kernel_rfl) rfl rfl ?_; clear hA a; intro a hA
 refine S.noU (dj := 32) hA (by kernel_rfl) rfl rfl ?_; clear hA a; intro a hA
 refine S.no (dj := 28) hA (by kernel_rfl) rfl rfl rfl ?_; clear hA a; intro a hA
 refine S.val hA (R.pickT rfl rfl) rfl ?_; clear hA a; intro a hA
 refine S.val hA (R.assign rfl) rfl ?_; clear hA a; intro a hA
 refine S.done ?_
 replace hA : St 58 [(1, _), (4, _), (7, _), (25, _)] a := hA.sub ((.cons rfl (.cons rfl (.cons rfl (.cons rfl .nil)))))
 refine Ends.condT hA rfl ?_
 refine Ends.seq (Ends.region ?_)
 refine S.val hA (R.assign rfl) rfl ?_; clear hA a; intro a hA
 refine S.val hA (R.assign rfl) rfl ?_; clear hA a; intro a hA
 refine S.val hA (R.assign rfl) rfl ?_; clear hA a; intro a hA
 refine S.done ?_
 refine Ends.ret3 Tryd.func88 Tryd.results88 hA rfl rfl rfl ?_
 exact ⟨rfl, hM.nilL.below⟩
set_option maxRecDepth 100000 in
set_option maxHeartbeats 400000 in
theorem read_nul (s : ByteArray) (x k : Nat) (hx : x ≤ s.size) (hk : dgs s x = k) (hsz : s.size ≤ 9223372036854775807) (h : 1 < k) (h0 : byt s x = 48) (w : World) :
  Calls Tryd.prog 88 #[.string s, .int .i64 ((x : Int))] w fun e w' => e = .returned (.tuple #[.int .i64 (0), .int .i64 (0), .int .i64 (4)]) ∧ Below w.heap.size w w' := by
 have hM := Mem.start w
 refine Calls.of_ends (vs := [.string s, .int .i64 ((x : Int))]) Tryd.func88 rfl Tryd.ntmps88 rfl ?_
 intro a hA
 replace hA : St 58 [(0, _), (1, _)] a := hA
 refine Ends.seq (Ends.region ?_)
 refine S.val hA (R.assign rfl) rfl ?_; clear hA a; intro a hA
 refine S.val hA (R.assign rfl) rfl ?_; clear hA a; intro a hA
 refine S.val hA (R.assign rfl) rfl ?_; clear hA a; intro a hA
 refine S.done ?_
 refine Ends.seq (Ends.seq (Ends.region ?_))
 refine S.val hA (R.move rfl) rfl ?_; clear hA a; intro a hA
 refine S.val hA (R.ff (R.lss rfl rfl) (by omega)) rfl ?_; clear hA a; intro a hA
 refine S.val hA (R.move rfl) rfl ?_; clear hA a; intro a hA
 refine S.valg (dj := 12) hA (by kernel_rfl) rfl (R.move rfl) rfl ?_; clear hA a; intro a hA
 refine S.valg (dj := 12) hA (by kernel_rfl) rfl (R.move rfl) rfl ?_; clear hA a; intro a hA
 refine S.valg (dj := 12) hA (by kernel_rfl) rfl (R.lenStr Tryd.underlying9 rfl rfl) rfl ?_; clear hA a; intro a hA
 refine S.valg (dj := 12) hA (by kernel_rfl) rfl (R.ff (R.gtr rfl rfl) (by omega)) rfl ?_; clear hA a; intro a hA
 refine S.val hA (R.pickF rfl rfl) rfl ?_; clear hA a; intro a hA
 refine S.done ?_
 replace hA : St 58 [(0, _), (1, _), (4, _), (17, _)] a := hA.sub ((.cons rfl (.cons rfl (.cons rfl (.cons rfl .nil)))))
 refine Ends.condF hA rfl ?_
 refine Ends.skip (Ends.seq (Ends.region ?_))
 refine S.val hA (R.move rfl) rfl ?_; clear hA a; intro a hA
 refine S.val hA (R.move rfl) rfl ?_; clear hA a; intro a hA
 refine S.val hA (R.to (v := .string ((s.extract x s.size))) (R.sliceSL Tryd.underlying9 rfl rfl (by omega)) (by first | rfl | (congr 2; done) | (congr 2 <;> omega))) rfl ?_; clear hA a; intro a hA
 refine S.val hA (R.assign rfl) rfl ?_; clear hA a; intro a hA
 refine S.done ?_
 replace hA : St 58 [(1, _), (4, _), (7, _)] a := hA.sub ((.cons rfl (.cons rfl (.cons rfl .nil))))
 refine Ends.seq (Ends.region ?_)
 refine S.val hA (R.move rfl) rfl ?_; clear hA a; intro a hA
 refine S.val hA (R.move rfl) rfl ?_; clear hA a; intro a hA
 refine S.call hA (R.callF Tryd.func94 rfl rfl rfl) rfl (run_at s x _) ?_; clear hA a
 rintro e w1 ⟨rfl, hb⟩
 replace hM := hM.callB hb; clear hb
 refine ⟨.int .i64 ((dgs s x : Int)), rfl, fun a hA => ?_⟩
 obtain ⟨d, hd, hdsz, hdb⟩ : ∃ d, (s.extract x s.size).extract 0 (dgs s x) = d ∧ d.size = k ∧ ∀ j, j < k → byt d j = byt s (x + j) := by
  have hle := dgs_le s hx
  rw [hk] at hle ⊢
  have h1 : (s.extract x s.size).size = s.size - x := size_ext (Nat.le_refl _)
  refine ⟨_, rfl, by rw [size_ext (by omega)]; omega, fun j hj => ?_⟩
  rw [byt_ext (by omega) (by omega), Nat.zero_add, byt_ext (by omega) (Nat.le_refl _)]
 have hdg : ∀ j, j < k → dig s (x + j) := fun j hj => (dgs_spec s x).1 j (by omega)
 have hdd : ∀ j, j < k → dig d j := fun j hj => ⟨by omega, by rw [hdb j hj]; exact (hdg j hj).2⟩
 have hle := dgs_le s hx
 rw [hk] at hle
 have h1 : (s.extract x s.size).size = s.size - x := size_ext (Nat.le_refl _)
 refine S.val hA (R.to (v := .string d) (R.sliceSH Tryd.underlying9 rfl rfl (by rw [hk]; omega)) (congrArg Value.string hd)) rfl ?_; clear hA a; intro a hA
 refine S.val hA (R.assign rfl) rfl ?_; clear hA a; intro a hA
 refine S.done ?_
 replace hA : St 58 [(1, _), (4, _), (7, _)] a := hA.sub ((.cons rfl (.cons rfl (.cons rfl .nil))))
 refine Ends.seq (Ends.block (Ends.seq (Ends.region ?_)))
 refine S.val hA (R.move rfl) rfl ?_; clear hA a; intro a hA
 refine S.val hA (R.ff (R.eqlStr rfl rfl) (fun h => by rw [h] at hdsz; have h0 : (0 : Nat) = k := hdsz; omega)) rfl ?_; clear hA a; intro a hA
 refine S.val hA (R.move rfl) rfl ?_; clear hA a; intro a hA
 refine S.valg (dj := 28) hA (by kernel_rfl) rfl (R.move rfl) rfl ?_; clear hA a; intro a hA
 refine S.valg (dj := 28) hA (by kernel_rfl) rfl (R.lenStr Tryd.underlying9 rfl rfl) rfl ?_; clear hA a; intro a hA
 refine S.valg (dj := 28) hA (by kernel_rfl) rfl (R.tt (R.gtr rfl rfl) (by omega)) rfl ?_; clear hA a; intro a hA
 refine S.valg (dj := 28) hA (by kernel_rfl) rfl (R.move rfl) rfl ?_; clear hA a; intro a hA
 refine S.valg (dj := 32) hA (by kernel_rfl) rfl (R.move rfl) rfl ?_; clear hA a; intro a hA
 refine S.valg (dj := 32) hA (by kernel_rfl) rfl (R.to (v := .int .u8 (byt d 0)) (R.idxS Tryd.underlying9 rfl rfl (by omega)) (by first | rfl | (congr 2; done) | (congr 2; omega))) rfl ?_; clear hA a; intro a hA
 refine S.valg (dj := 32) hA (by kernel_rfl) rfl (R.tt (R.eql rfl rfl) (by rw [hdb 0 (by omega)]; exact h0)) rfl ?_; clear hA a; intro a hA
 refine S.valg (dj := 28) hA (by kernel_rfl) rfl (R.pickT rfl rfl) rfl ?_; clear hA a; intro a hA
 refine S.val hA (R.pickF rfl rfl) rfl ?_; clear hA a; intro a hA
 refine S.val hA (R.assign rfl) rfl ?_; clear hA a; intro a hA
 refine S.done ?_
 replace hA : St 58 [(1, _), (4, _), (7, _), (25, _)] a := hA.sub ((.cons rfl (.cons rfl (.cons rfl (.cons rfl .nil)))))
 refine Ends.condT hA rfl ?_
 refine Ends.seq (Ends.region ?_)
 refine S.val hA (R.assign rfl) rfl ?_; clear hA a; intro a hA
 refine S.val hA (R.assign rfl) rfl ?_; clear hA a; intro a hA
 refine S.val hA (R.assign rfl) rfl ?_; clear hA a; intro a hA
 refine S.done ?_
 refine Ends.ret3 Tryd.func88 Tryd.results88 hA rfl rfl rfl ?_
 exact ⟨rfl, hM.nilL.below⟩
set_option maxRecDepth 100000 in
set_option maxHeartbeats 400000 in
theorem read_big (s : ByteArray) (x k : Nat) (hx : x ≤ s.size) (hk : dgs s x = k) (hsz : s.size ≤ 9223372036854775807) (h : 18 < k) (h0 : byt s x ≠ 48) (w : World) :
  Calls Tryd.prog 88 #[.string s, .int .i64 ((x : Int))] w fun e w' => e = .returned (.tuple #[.int .i64 (0), .int .i64 (0), .int .i64 (5)]) ∧ Below w.heap.size w w' := by
 have hM := Mem.start w
 refine Calls.of_ends (vs := [.string s, .int .i64 ((x : Int))]) Tryd.func88 rfl Tryd.ntmps88 rfl ?_
 intro a hA
 replace hA : St 58 [(0, _), (1, _)] a := hA
 refine Ends.seq (Ends.region ?_)
 refine S.val hA (R.assign rfl) rfl ?_; clear hA a; intro a hA
 refine S.val hA (R.assign rfl) rfl ?_; clear hA a; intro a hA
 refine S.val hA (R.assign rfl) rfl ?_; clear hA a; intro a hA
 refine S.done ?_
 refine Ends.seq (Ends.seq (Ends.region ?_))
 refine S.val hA (R.move rfl) rfl ?_; clear hA a; intro a hA
 refine S.val hA (R.ff (R.lss rfl rfl) (by omega)) rfl ?_; clear hA a; intro a hA
 refine S.val hA (R.move rfl) rfl ?_; clear hA a; intro a hA
 refine S.valg (dj := 12) hA (by kernel_rfl) rfl (R.move rfl) rfl ?_; clear hA a; intro a hA
 refine S.valg (dj := 12) hA (by kernel_rfl) rfl (R.move rfl) rfl ?_; clear hA a; intro a hA
 refine S.valg (dj := 12) hA (by kernel_rfl) rfl (R.lenStr Tryd.underlying9 rfl rfl) rfl ?_; clear hA a; intro a hA
 refine S.valg (dj := 12) hA (by kernel_rfl) rfl (R.ff (R.gtr rfl rfl) (by omega)) rfl ?_; clear hA a; intro a hA
 refine S.val hA (R.pickF rfl rfl) rfl ?_; clear hA a; intro a hA
 refine S.done ?_
 replace hA : St 58 [(0, _), (1, _), (4, _), (17, _)] a := hA.sub ((.cons rfl (.cons rfl (.cons rfl (.cons rfl .nil)))))
 refine Ends.condF hA rfl ?_
 refine Ends.skip (Ends.seq (Ends.region ?_))
 refine S.val hA (R.move rfl) rfl ?_; clear hA a; intro a hA
 refine S.val hA (R.move rfl) rfl ?_; clear hA a; intro a hA
 refine S.val hA (R.to (v := .string ((s.extract x s.size))) (R.sliceSL Tryd.underlying9 rfl rfl (by omega)) (by first | rfl | (congr 2; done) | (congr 2 <;> omega))) rfl ?_; clear hA a; intro a hA
 refine S.val hA (R.assign rfl) rfl ?_; clear hA a; intro a hA
 refine S.done ?_
 replace hA : St 58 [(1, _), (4, _), (7, _)] a := hA.sub ((.cons rfl (.cons rfl (.cons rfl .nil))))
 refine Ends.seq (Ends.region ?_)
 refine S.val hA (R.move rfl) rfl ?_; clear hA a; intro a hA
 refine S.val hA (R.move rfl) rfl ?_; clear hA a; intro a hA
 refine S.call hA (R.callF Tryd.func94 rfl rfl rfl) rfl (run_at s x _) ?_; clear hA a
 rintro e w1 ⟨rfl, hb⟩
 replace hM := hM.callB hb; clear hb
 refine ⟨.int .i64 ((dgs s x : Int)), rfl, fun a hA => ?_⟩
 obtain ⟨d, hd, hdsz, hdb⟩ : ∃ d, (s.extract x s.size).extract 0 (dgs s x) = d ∧ d.size = k ∧ ∀ j, j < k → byt d j = byt s (x + j) := by
  have hle := dgs_le s hx
  rw [hk] at hle ⊢
  have h1 : (s.extract x s.size).size = s.size - x := size_ext (Nat.le_refl _)
  refine ⟨_, rfl, by rw [size_ext (by omega)]; omega, fun j hj => ?_⟩
  rw [byt_ext (by omega) (by omega), Nat.zero_add, byt_ext (by omega) (Nat.le_refl _)]
 have hdg : ∀ j, j < k → dig s (x + j) := fun j hj => (dgs_spec s x).1 j (by omega)
 have hdd : ∀ j, j < k → dig d j := fun j hj => ⟨by omega, by rw [hdb j hj]; exact (hdg j hj).2⟩
 have hle := dgs_le s hx
 rw [hk] at hle
 have h1 : (s.extract x s.size).size = s.size - x := size_ext (Nat.le_refl _)
 refine S.val hA (R.to (v := .string d) (R.sliceSH Tryd.underlying9 rfl rfl (by rw [hk]; omega)) (congrArg Value.string hd)) rfl ?_; clear hA a; intro a hA
 refine S.val hA (R.assign rfl) rfl ?_; clear hA a; intro a hA
 refine S.done ?_
 replace hA : St 58 [(1, _), (4, _), (7, _)] a := hA.sub ((.cons rfl (.cons rfl (.cons rfl .nil))))
 refine Ends.seq (Ends.block (Ends.seq (Ends.region ?_)))
 refine S.val hA (R.move rfl) rfl ?_; clear hA a; intro a hA
 refine S.val hA (R.ff (R.eqlStr rfl rfl) (fun h => by rw [h] at hdsz; have h0 : (0 : Nat) = k := hdsz; omega)) rfl ?_; clear hA a; intro a hA
 refine S.val hA (R.move rfl) rfl ?_; clear hA a; intro a hA
 refine S.valg (dj := 28) hA (by kernel_rfl) rfl (R.move rfl) rfl ?_; clear hA a; intro a hA
 refine S.valg (dj := 28) hA (by kernel_rfl) rfl (R.lenStr Tryd.underlying9 rfl rfl) rfl ?_; clear hA a; intro a hA
 refine S.valg (dj := 28) hA (by kernel_rfl) rfl (R.tt (R.gtr rfl rfl) (by omega)) rfl ?_; clear hA a; intro a hA
 refine S.valg (dj := 28) hA (by kernel_rfl) rfl (R.move rfl) rfl ?_; clear hA a; intro a hA
 refine S.valg (dj := 32) hA (by kernel_rfl) rfl (R.move rfl) rfl ?_; clear hA a; intro a hA
 refine S.valg (dj := 32) hA (by kernel_rfl) rfl (R.to (v := .int .u8 (byt d 0)) (R.idxS Tryd.underlying9 rfl rfl (by omega)) (by first | rfl | (congr 2; done) | (congr 2; omega))) rfl ?_; clear hA a; intro a hA
 refine S.valg (dj := 32) hA (by kernel_rfl) rfl (R.ff (R.eql rfl rfl) (by rw [hdb 0 (by omega)]; exact h0)) rfl ?_; clear hA a; intro a hA
 refine S.valg (dj := 28) hA (by kernel_rfl) rfl (R.pickT rfl rfl) rfl ?_; clear hA a; intro a hA
 refine S.val hA (R.pickF rfl rfl) rfl ?_; clear hA a; intro a hA
 refine S.val hA (R.assign rfl) rfl ?_; clear hA a; intro a hA
 refine S.done ?_
 replace hA : St 58 [(1, _), (4, _), (7, _), (25, _)] a := hA.sub ((.cons rfl (.cons rfl (.cons rfl (.cons rfl .nil)))))
 refine Ends.condF hA rfl ?_
 refine Ends.seq (Ends.region ?_)
 refine S.val hA (R.move rfl) rfl ?_; clear hA a; intro a hA
 refine S.val hA (R.lenStr Tryd.underlying9 rfl rfl) rfl ?_; clear hA a; intro a hA
 refine S.val hA (R.tt (R.gtr rfl rfl) (by omega)) rfl ?_; clear hA a; intro a hA
 refine S.val hA (R.assign rfl) rfl ?_; clear hA a; intro a hA
 refine S.done ?_
 replace hA : St 58 [(1, _), (4, _), (7, _), (38, _)] a := hA.sub ((.cons rfl (.cons rfl (.cons rfl (.cons rfl .nil)))))
 refine Ends.condT hA rfl ?_
 refine Ends.seq (Ends.region ?_)
 refine S.val hA (R.assign rfl) rfl ?_; clear hA a; intro a hA
 refine S.val hA (R.assign rfl) rfl ?_; clear hA a; intro a hA
 refine S.val hA (R.assign rfl) rfl ?_; clear hA a; intro a hA
 refine S.done ?_
 refine Ends.ret3 Tryd.func88 Tryd.results88 hA rfl rfl rfl ?_
 exact ⟨rfl, hM.nilL.below⟩
set_option maxRecDepth 100000 in
set_option maxHeartbeats 400000 in
theorem read_num1 (s : ByteArray) (x k : Nat) (hx : x ≤ s.size) (hk : dgs s x = k) (hsz : s.size ≤ 9223372036854775807) (h : k = 1) (w : World) :
  Calls Tryd.prog 88 #[.string s, .int .i64 ((x : Int))] w fun e w' => e = .returned (.tuple #[.int .i64 (numv s x k), .int .i64 (x + k), .int .i64 (0)]) ∧ Below w.heap.size w w' := by
 have hM := Mem.start w
 refine Calls.of_ends (vs := [.string s, .int .i64 ((x : Int))]) Tryd.func88 rfl Tryd.ntmps88 rfl ?_
 intro a hA
 replace hA : St 58 [(0, _), (1, _)] a := hA
 refine Ends.seq (Ends.region ?_)
 refine S.val hA (R.assign rfl) rfl ?_; clear hA a; intro a hA
 refine S.val hA (R.assign rfl) rfl ?_; clear hA a; intro a hA
 refine S.val hA (R.assign rfl) rfl ?_; clear hA a; intro a hA
 refine S.done ?_
 refine Ends.seq (Ends.seq (Ends.region ?_))
 refine S.val hA (R.move rfl) rfl ?_; clear hA a; intro a hA
 refine S.val hA (R.ff (R.lss rfl rfl) (by omega)) rfl ?_; clear hA a; intro a hA
 refine S.val hA (R.move rfl) rfl ?_; clear hA a; intro a hA
 refine S.valg (dj := 12) hA (by kernel_rfl) rfl (R.move rfl) rfl ?_; clear hA a; intro a hA
 refine S.valg (dj := 12) hA (by kernel_rfl) rfl (R.move rfl) rfl ?_; clear hA a; intro a hA
 refine S.valg (dj := 12) hA (by kernel_rfl) rfl (R.lenStr Tryd.underlying9 rfl rfl) rfl ?_; clear hA a; intro a hA
 refine S.valg (dj := 12) hA (by kernel_rfl) rfl (R.ff (R.gtr rfl rfl) (by omega)) rfl ?_; clear hA a; intro a hA
 refine S.val hA (R.pickF rfl rfl) rfl ?_; clear hA a; intro a hA
 refine S.done ?_
 replace hA : St 58 [(0, _), (1, _), (4, _), (17, _)] a := hA.sub ((.cons rfl (.cons rfl (.cons rfl (.cons rfl .nil)))))
 refine Ends.condF hA rfl ?_
 refine Ends.skip (Ends.seq (Ends.region ?_))
 refine S.val hA (R.move rfl) rfl ?_; clear hA a; intro a hA
 refine S.val hA (R.move rfl) rfl ?_; clear hA a; intro a hA
 refine S.val hA (R.to (v := .string ((s.extract x s.size))) (R.sliceSL Tryd.underlying9 rfl rfl (by omega)) (by first | rfl | (congr 2; done) | (congr 2 <;> omega))) rfl ?_; clear hA a; intro a hA
 refine S.val hA (R.assign rfl) rfl ?_; clear hA a; intro a hA
 refine S.done ?_
 replace hA : St 58 [(1, _), (4, _), (7, _)] a := hA.sub ((.cons rfl (.cons rfl (.cons rfl .nil))))
 refine Ends.seq (Ends.region ?_)
 refine S.val hA (R.move rfl) rfl ?_; clear hA a; intro a hA
 refine S.val hA (R.move rfl) rfl ?_; clear hA a; intro a hA
 refine S.call hA (R.callF Tryd.func94 rfl rfl rfl) rfl (run_at s x _) ?_; clear hA a
 rintro e w1 ⟨rfl, hb⟩
 replace hM := hM.callB hb; clear hb
 refine ⟨.int .i64 ((dgs s x : Int)), rfl, fun a hA => ?_⟩
 obtain ⟨d, hd, hdsz, hdb⟩ : ∃ d, (s.extract x s.size).extract 0 (dgs s x) = d ∧ d.size = k ∧ ∀ j, j < k → byt d j = byt s (x + j) := by
  have hle := dgs_le s hx
  rw [hk] at hle ⊢
  have h1 : (s.extract x s.size).size = s.size - x := size_ext (Nat.le_refl _)
  refine ⟨_, rfl, by rw [size_ext (by omega)]; omega, fun j hj => ?_⟩
  rw [byt_ext (by omega) (by omega), Nat.zero_add, byt_ext (by omega) (Nat.le_refl _)]
 have hdg : ∀ j, j < k → dig s (x + j) := fun j hj => (dgs_spec s x).1 j (by omega)
 have hdd : ∀ j, j < k → dig d j := fun j hj => ⟨by omega, by rw [hdb j hj]; exact (hdg j hj).2⟩
 have hle := dgs_le s hx
 rw [hk] at hle
 have h1 : (s.extract x s.size).size = s.size - x := size_ext (Nat.le_refl _)
 refine S.val hA (R.to (v := .string d) (R.sliceSH Tryd.underlying9 rfl rfl (by rw [hk]; omega)) (congrArg Value.string hd)) rfl ?_; clear hA a; intro a hA
 refine S.val hA (R.assign rfl) rfl ?_; clear hA a; intro a hA
 refine S.done ?_
 replace hA : St 58 [(1, _), (4, _), (7, _)] a := hA.sub ((.cons rfl (.cons rfl (.cons rfl .nil))))
 refine Ends.seq (Ends.block (Ends.seq (Ends.region ?_)))
 refine S.val hA (R.move rfl) rfl ?_; clear hA a; intro a hA
 refine S.val hA (R.ff (R.eqlStr rfl rfl) (fun h => by rw [h] at hdsz; have h0 : (0 : Nat) = k := hdsz; omega)) rfl ?_; clear hA a; intro a hA
 refine S.val hA (R.move rfl) rfl ?_; clear hA a; intro a hA
 refine S.valg (dj := 28) hA (by kernel_rfl) rfl (R.move rfl) rfl ?_; clear hA a; intro a hA
 refine S.valg (dj := 28) hA (by kernel_rfl) rfl (R.lenStr Tryd.underlying9 rfl rfl) rfl ?_; clear hA a; intro a hA
 refine S.valg (dj := 28) hA (by kernel_rfl) rfl (R.ff (R.gtr rfl rfl) (by omega)) rfl ?_; clear hA a; intro a hA
 refine S.valg (dj := 28) hA (by kernel_rfl) rfl (R.move rfl) rfl ?_; clear hA a; intro a hA
 refine S.no (dj := 32) hA (by kernel_rfl) rfl rfl rfl ?_; clear hA a; intro a hA
 refine S.no (dj := 32) hA (by kernel_rfl) rfl rfl rfl ?_; clear hA a; intro a hA
 refine S.no (dj := 32) hA (by kernel_rfl) rfl rfl rfl ?_; clear hA a; intro a hA
 refine S.valg (dj := 28) hA (by kernel_rfl) rfl (R.pickF rfl rfl) rfl ?_; clear hA a; intro a hA
 refine S.val hA (R.pickF rfl rfl) rfl ?_; clear hA a; intro a hA
 refine S.val hA (R.assign rfl) rfl ?_; clear hA a; intro a hA
 refine S.done ?_
 replace hA : St 58 [(1, _), (4, _), (7, _), (25, _)] a := hA.sub ((.cons rfl (.cons rfl (.cons rfl (.cons rfl .nil)))))
 refine Ends.condF hA rfl ?_
 refine Ends.seq (Ends.region ?_)
 refine S.val hA (R.move rfl) rfl ?_; clear hA a; intro a hA
 refine S.val hA (R.lenStr Tryd.underlying9 rfl rfl) rfl ?_; clear hA a; intro a hA
 refine S.val hA (R.ff (R.gtr rfl rfl) (by omega)) rfl ?_; clear hA a; intro a hA
 refine S.val hA (R.assign rfl) rfl ?_; clear hA a; intro a hA
 refine S.done ?_
 replace hA : St 58 [(1, _), (4, _), (7, _), (38, _)] a := hA.sub ((.cons rfl (.cons rfl (.cons rfl (.cons rfl .nil)))))
 refine Ends.condF hA rfl ?_
 refine Ends.skip (Ends.inBlock (Ends.seq (Ends.seq (Ends.region ?_))))
 refine S.val hA (R.move rfl) rfl ?_; clear hA a; intro a hA
 refine S.rangeS hA hM Tryd.underlying9 rfl rfl ?_; clear hA hM a; intro b1 w2 hb2 hM a hA
 replace hM : Mem _ _ [itC b1 d 0] _ := hM
 refine S.done ?_
 refine Ends.block ?_
 refine Ends.loop (σ := Nat) (fun j (a : Act) (wv : World) => St 58 [(1, .int .i64 ((x : Int))), (4, .int .i64 (numv s x j)), (7, .string d), (43, .pointer (some ⟨b1, 0, none⟩))] a ∧ Mem w nof [itC b1 d j] wv ∧ (j ≤ k)) (fun j => d.size - j) 0 ⟨hA.sub ((.cons rfl (.cons rfl (.cons rfl (.cons rfl .nil))))), hM, (Nat.zero_le _)⟩ ?_
 clear hA hM a
 rintro j a w3 ⟨hA, hM, hj⟩ hNext
 refine Ends.seq (Ends.region ?_)
 by_cases hp3 : j < d.size
 ·
  refine S.nextT (k := 0) hA hM rfl rfl hp3 rfl ?_; clear hA hM a; intro w4 hM a hA
  replace hM : Mem _ _ [itC b1 d ((j + (Utf8.decode d j).2))] _ := hM
  refine S.val hA (R.extract (v := .bool true) rfl rfl) rfl ?_; clear hA a; intro a hA
  refine S.done ?_
  refine Ends.seq ?_
  refine Ends.condT hA rfl ?_
  refine Ends.skip (Ends.block (Ends.seq (Ends.region ?_)))
  refine S.val hA (R.extract (v := .int .i32 (((Utf8.decode d j).1 : Int))) rfl rfl) rfl ?_; clear hA a; intro a hA
  refine S.val hA (R.assign rfl) rfl ?_; clear hA a; intro a hA
  refine S.done ?_
  have hr : ((Utf8.decode d j).1 : Int) = byt s (x + j) := by rw [((dec_dig hp3).2 (hdd j (by omega))).2]; exact hdb j (by omega)
  have hnv := numv_lt (s := s) (x := x) (k := j) (fun i hi => hdg i (by omega)) (by omega)
  have hdj := (hdg j (by omega)).2
  refine Ends.region ?_
  refine S.val hA (R.move rfl) rfl ?_; clear hA a; intro a hA
  refine S.val hA (R.mulI rfl rfl (r := (numv s x j) * 10) rfl (by omega)) rfl ?_; clear hA a; intro a hA
  refine S.val hA (R.move rfl) rfl ?_; clear hA a; intro a hA
  refine S.val hA (R.to (v := .int .i32 (byt s (x + j) - 48)) (R.sub rfl rfl) (congrArg (Value.int .i32) (by rw [hr]; exact i32_wrap (by omega)))) rfl ?_; clear hA a; intro a hA
  refine S.val hA (R.to (v := .int .i64 (byt s (x + j) - 48)) (R.conv Tryd.underlying3 Tryd.underlying21 rfl) (congrArg (Value.int .i64) (i64_wrap (by omega)))) rfl ?_; clear hA a; intro a hA
  refine S.val hA (R.addI rfl rfl (r := ((numv s x j) * 10) + (byt s (x + j) - 48)) rfl (by omega)) rfl ?_; clear hA a; intro a hA
  refine S.val hA (R.assign rfl) rfl ?_; clear hA a; intro a hA
  refine S.done ?_
  replace hA : St 58 [(1, _), (4, _), (7, _), (43, _)] a := hA.sub ((.cons rfl (.cons rfl (.cons rfl (.cons rfl .nil)))))
  refine Ends.inBlock ?_
  rw [((dec_dig hp3).2 (hdd j (by omega))).1] at hM
  exact hNext ((j + 1)) _ _ ((by show d.size - (j + 1) < d.size - j; omega)) ⟨hA.sub ((.cons rfl (.cons rfl (.cons rfl (.cons rfl .nil))))), hM, (by omega)⟩
 ·
  refine S.val hA (R.nextF (k := 0) hM rfl rfl hp3) rfl ?_; clear hA a; intro a hA
  refine S.val hA (R.extract (v := .bool false) rfl rfl) rfl ?_; clear hA a; intro a hA
  refine S.done ?_
  refine Ends.seq ?_
  refine Ends.condF hA rfl ?_
  refine Ends.exit rfl ?_
  refine Ends.seq (Ends.region ?_)
  refine S.val hA (R.move rfl) rfl ?_; clear hA a; intro a hA
  refine S.val hA (R.move rfl) rfl ?_; clear hA a; intro a hA
  refine S.val hA (R.move rfl) rfl ?_; clear hA a; intro a hA
  refine S.val hA (R.lenStr Tryd.underlying9 rfl rfl) rfl ?_; clear hA a; intro a hA
  refine S.val hA (R.addI rfl rfl (r := ((x : Int)) + ((d.size : Int))) rfl (by omega)) rfl ?_; clear hA a; intro a hA
  refine S.val hA (R.assign rfl) rfl ?_; clear hA a; intro a hA
  refine S.val hA (R.assign rfl) rfl ?_; clear hA a; intro a hA
  refine S.val hA (R.assign rfl) rfl ?_; clear hA a; intro a hA
  refine S.done ?_
  replace hA : St 58 [(4, _), (5, _), (6, _)] a := hA.sub ((.cons rfl (.cons rfl (.cons rfl .nil))))
  refine Ends.ret3 Tryd.func88 Tryd.results88 hA rfl rfl rfl ?_
  have hje : j = k := by omega
  rw [hdsz, hje]
  exact ⟨rfl, hM.nilL.below⟩
set_option maxRecDepth 100000 in
set_option maxHeartbeats 400000 in
theorem read_num (s : ByteArray) (x k : Nat) (hx : x ≤ s.size) (hk : dgs s x = k) (hsz : s.size ≤ 9223372036854775807) (h : 1 < k ∧ k ≤ 18) (h0 : byt s x ≠ 48) (w : World) :
  Calls Tryd.prog 88 #[.string s, .int .i64 ((x : Int))] w fun e w' => e = .returned (.tuple #[.int .i64 (numv s x k), .int .i64 (x + k), .int .i64 (0)]) ∧ Below w.heap.size w w' := by
 have hM := Mem.start w
 refine Calls.of_ends (vs := [.string s, .int .i64 ((x : Int))]) Tryd.func88 rfl Tryd.ntmps88 rfl ?_
 intro a hA
 replace hA : St 58 [(0, _), (1, _)] a := hA
 refine Ends.seq (Ends.region ?_)
 refine S.val hA (R.assign rfl) rfl ?_; clear hA a; intro a hA
 refine S.val hA (R.assign rfl) rfl ?_; clear hA a; intro a hA
 refine S.val hA (R.assign rfl) rfl ?_; clear hA a; intro a hA
 refine S.done ?_
 refine Ends.seq (Ends.seq (Ends.region ?_))
 refine S.val hA (R.move rfl) rfl ?_; clear hA a; intro a hA
 refine S.val hA (R.ff (R.lss rfl rfl) (by omega)) rfl ?_; clear hA a; intro a hA
 refine S.val hA (R.move rfl) rfl ?_; clear hA a; intro a hA
 refine S.valg (dj := 12) hA (by kernel_rfl) rfl (R.move rfl) rfl ?_; clear hA a; intro a hA
 refine S.valg (dj := 12) hA (by kernel_rfl) rfl (R.move rfl) rfl ?_; clear hA a; intro a hA
 refine S.valg (dj := 12) hA (by kernel_rfl) rfl (R.lenStr Tryd.underlying9 rfl rfl) rfl ?_; clear hA a; intro a hA
 refine S.valg (dj := 12) hA (by kernel_rfl) rfl (R.ff (R.gtr rfl rfl) (by omega)) rfl ?_; clear hA a; intro a hA
 refine S.val hA (R.pickF rfl rfl) rfl ?_; clear hA a; intro a hA
 refine S.done ?_
 replace hA : St 58 [(0, _), (1, _), (4, _), (17, _)] a := hA.sub ((.cons rfl (.cons rfl (.cons rfl (.cons rfl .nil)))))
 refine Ends.condF hA rfl ?_
 refine Ends.skip (Ends.seq (Ends.region ?_))
 refine S.val hA (R.move rfl) rfl ?_; clear hA a; intro a hA
 refine S.val hA (R.move rfl) rfl ?_; clear hA a; intro a hA
 refine S.val hA (R.to (v := .string ((s.extract x s.size))) (R.sliceSL Tryd.underlying9 rfl rfl (by omega)) (by first | rfl | (congr 2; done) | (congr 2 <;> omega))) rfl ?_; clear hA a; intro a hA
 refine S.val hA (R.assign rfl) rfl ?_; clear hA a; intro a hA
 refine S.done ?_
 replace hA : St 58 [(1, _), (4, _), (7, _)] a := hA.sub ((.cons rfl (.cons rfl (.cons rfl .nil))))
 refine Ends.seq (Ends.region ?_)
 refine S.val hA (R.move rfl) rfl ?_; clear hA a; intro a hA
 refine S.val hA (R.move rfl) rfl ?_; clear hA a; intro a hA
 refine S.call hA (R.callF Tryd.func94 rfl rfl rfl) rfl (run_at s x _) ?_; clear hA a
 rintro e w1 ⟨rfl, hb⟩
 replace hM := hM.callB hb; clear hb
 refine ⟨.int .i64 ((dgs s x : Int)), rfl, fun a hA => ?_⟩
 obtain ⟨d, hd, hdsz, hdb⟩ : ∃ d, (s.extract x s.size).extract 0 (dgs s x) = d ∧ d.size = k ∧ ∀ j, j < k → byt d j = byt s (x + j) := by
  have hle := dgs_le s hx
  rw [hk] at hle ⊢
  have h1 : (s.extract x s.size).size = s.size - x := size_ext (Nat.le_refl _)
  refine ⟨_, rfl, by rw [size_ext (by omega)]; omega, fun j hj => ?_⟩
  rw [byt_ext (by omega) (by omega), Nat.zero_add, byt_ext (by omega) (Nat.le_refl _)]
 have hdg : ∀ j, j < k → dig s (x + j) := fun j hj => (dgs_spec s x).1 j (by omega)
 have hdd : ∀ j, j < k → dig d j := fun j hj => ⟨by omega, by rw [hdb j hj]; exact (hdg j hj).2⟩
 have hle := dgs_le s hx
 rw [hk] at hle
 have h1 : (s.extract x s.size).size = s.size - x := size_ext (Nat.le_refl _)
 refine S.val hA (R.to (v := .string d) (R.sliceSH Tryd.underlying9 rfl rfl (by rw [hk]; omega)) (congrArg Value.string hd)) rfl ?_; clear hA a; intro a hA
 refine S.val hA (R.assign rfl) rfl ?_; clear hA a; intro a hA
 refine S.done ?_
 replace hA : St 58 [(1, _), (4, _), (7, _)] a := hA.sub ((.cons rfl (.cons rfl (.cons rfl .nil))))
 refine Ends.seq (Ends.block (Ends.seq (Ends.region ?_)))
 refine S.val hA (R.move rfl) rfl ?_; clear hA a; intro a hA
 refine S.val hA (R.ff (R.eqlStr rfl rfl) (fun h => by rw [h] at hdsz; have h0 : (0 : Nat) = k := hdsz; omega)) rfl ?_; clear hA a; intro a hA
 refine S.val hA (R.move rfl) rfl ?_; clear hA a; intro a hA
 refine S.valg (dj := 28) hA (by kernel_rfl) rfl (R.move rfl) rfl ?_; clear hA a; intro a hA
 refine S.valg (dj := 28) hA (by kernel_rfl) rfl (R.lenStr Tryd.underlying9 rfl rfl) rfl ?_; clear hA a; intro a hA
 refine S.valg (dj := 28) hA (by kernel_rfl) rfl (R.tt (R.gtr rfl rfl) (by omega)) rfl ?_; clear hA a; intro a hA
 refine S.valg (dj := 28) hA (by kernel_rfl) rfl (R.move rfl) rfl ?_; clear hA a; intro a hA
 refine S.valg (dj := 32) hA (by kernel_rfl) rfl (R.move rfl) rfl ?_; clear hA a; intro a hA
 refine S.valg (dj := 32) hA (by kernel_rfl) rfl (R.to (v := .int .u8 (byt d 0)) (R.idxS Tryd.underlying9 rfl rfl (by omega)) (by first | rfl | (congr 2; done) | (congr 2; omega))) rfl ?_; clear hA a; intro a hA
 refine S.valg (dj := 32) hA (by kernel_rfl) rfl (R.ff (R.eql rfl rfl) (by rw [hdb 0 (by omega)]; exact h0)) rfl ?_; clear hA a; intro a hA
 refine S.valg (dj := 28) hA (by kernel_rfl) rfl (R.pickT rfl rfl) rfl ?_; clear hA a; intro a hA
 refine S.val hA (R.pickF rfl rfl) rfl ?_; clear hA a; intro a hA
 refine S.val hA (R.assign rfl) rfl ?_; clear hA a; intro a hA
 refine S.done ?_
 replace hA : St 58 [(1, _), (4, _), (7, _), (25, _)] a := hA.sub ((.cons rfl (.cons rfl (.cons rfl (.cons rfl .nil)))))
 refine Ends.condF hA rfl ?_
 refine Ends.seq (Ends.region ?_)
 refine S.val hA (R.move rfl) rfl ?_; clear hA a; intro a hA
 refine S.val hA (R.lenStr Tryd.underlying9 rfl rfl) rfl ?_; clear hA a; intro a hA
 refine S.val hA (R.ff (R.gtr rfl rfl) (by omega)) rfl ?_; clear hA a; intro a hA
 refine S.val hA (R.assign rfl) rfl ?_; clear hA a; intro a hA
 refine S.done ?_
 replace hA : St 58 [(1, _), (4, _), (7, _), (38, _)] a := hA.sub ((.cons rfl (.cons rfl (.cons rfl (.cons rfl .nil)))))
 refine Ends.condF hA rfl ?_
 refine Ends.skip (Ends.inBlock (Ends.seq (Ends.seq (Ends.region ?_))))
 refine S.val hA (R.move rfl) rfl ?_; clear hA a; intro a hA
 refine S.rangeS hA hM Tryd.underlying9 rfl rfl ?_; clear hA hM a; intro b1 w2 hb2 hM a hA
 replace hM : Mem _ _ [itC b1 d 0] _ := hM
 refine S.done ?_
 refine Ends.block ?_
 refine Ends.loop (σ := Nat) (fun j (a : Act) (wv : World) => St 58 [(1, .int .i64 ((x : Int))), (4, .int .i64 (numv s x j)), (7, .string d), (43, .pointer (some ⟨b1, 0, none⟩))] a ∧ Mem w nof [itC b1 d j] wv ∧ (j ≤ k)) (fun j => d.size - j) 0 ⟨hA.sub ((.cons rfl (.cons rfl (.cons rfl (.cons rfl .nil))))), hM, (Nat.zero_le _)⟩ ?_
 clear hA hM a
 rintro j a w3 ⟨hA, hM, hj⟩ hNext
 refine Ends.seq (Ends.region ?_)
 by_cases hp3 : j < d.size
 ·
  refine S.nextT (k := 0) hA hM rfl rfl hp3 rfl ?_; clear hA hM a; intro w4 hM a hA
  replace hM : Mem _ _ [itC b1 d ((j + (Utf8.decode d j).2))] _ := hM
  refine S.val hA (R.extract (v := .bool true) rfl rfl) rfl ?_; clear hA a; intro a hA
  refine S.done ?_
  refine Ends.seq ?_
  refine Ends.condT hA rfl ?_
  refine Ends.skip (Ends.block (Ends.seq (Ends.region ?_)))
  refine S.val hA (R.extract (v := .int .i32 (((Utf8.decode d j).1 : Int))) rfl rfl) rfl ?_; clear hA a; intro a hA
  refine S.val hA (R.assign rfl) rfl ?_; clear hA a; intro a hA
  refine S.done ?_
  have hr : ((Utf8.decode d j).1 : Int) = byt s (x + j) := by rw [((dec_dig hp3).2 (hdd j (by omega))).2]; exact hdb j (by omega)
  have hnv := numv_lt (s := s) (x := x) (k := j) (fun i hi => hdg i (by omega)) (by omega)
  have hdj := (hdg j (by omega)).2
  refine Ends.region ?_
  refine S.val hA (R.move rfl) rfl ?_; clear hA a; intro a hA
  refine S.val hA (R.mulI rfl rfl (r := (numv s x j) * 10) rfl (by omega)) rfl ?_; clear hA a; intro a hA
  refine S.val hA (R.move rfl) rfl ?_; clear hA a; intro a hA
  refine S.val hA (R.to (v := .int .i32 (byt s (x + j) - 48)) (R.sub rfl rfl) (congrArg (Value.int .i32) (by rw [hr]; exact i32_wrap (by omega)))) rfl ?_; clear hA a; intro a hA
  refine S.val hA (R.to (v := .int .i64 (byt s (x + j) - 48)) (R.conv Tryd.underlying3 Tryd.underlying21 rfl) (congrArg (Value.int .i64) (i64_wrap (by omega)))) rfl ?_; clear hA a; intro a hA
  refine S.val hA (R.addI rfl rfl (r := ((numv s x j) * 10) + (byt s (x + j) - 48)) rfl (by omega)) rfl ?_; clear hA a; intro a hA
  refine S.val hA (R.assign rfl) rfl ?_; clear hA a; intro a hA
  refine S.done ?_
  replace hA : St 58 [(1, _), (4, _), (7, _), (43, _)] a := hA.sub ((.cons rfl (.cons rfl (.cons rfl (.cons rfl .nil)))))
  refine Ends.inBlock ?_
  rw [((dec_dig hp3).2 (hdd j (by omega))).1] at hM
  exact hNext ((j + 1)) _ _ ((by show d.size - (j + 1) < d.size - j; omega)) ⟨hA.sub ((.cons rfl (.cons rfl (.cons rfl (.cons rfl .nil))))), hM, (by omega)⟩
 ·
  refine S.val hA (R.nextF (k := 0) hM rfl rfl hp3) rfl ?_; clear hA a; intro a hA
  refine S.val hA (R.extract (v := .bool false) rfl rfl) rfl ?_; clear hA a; intro a hA
  refine S.done ?_
  refine Ends.seq ?_
  refine Ends.condF hA rfl ?_
  refine Ends.exit rfl ?_
  refine Ends.seq (Ends.region ?_)
  refine S.val hA (R.move rfl) rfl ?_; clear hA a; intro a hA
  refine S.val hA (R.move rfl) rfl ?_; clear hA a; intro a hA
  refine S.val hA (R.move rfl) rfl ?_; clear hA a; intro a hA
  refine S.val hA (R.lenStr Tryd.underlying9 rfl rfl) rfl ?_; clear hA a; intro a hA
  refine S.val hA (R.addI rfl rfl (r := ((x : Int)) + ((d.size : Int))) rfl (by omega)) rfl ?_; clear hA a; intro a hA
  refine S.val hA (R.assign rfl) rfl ?_; clear hA a; intro a hA
  refine S.val hA (R.assign rfl) rfl ?_; clear hA a; intro a hA
  refine S.val hA (R.assign rfl) rfl ?_; clear hA a; intro a hA
  refine S.done ?_
  replace hA : St 58 [(4, _), (5, _), (6, _)] a := hA.sub ((.cons rfl (.cons rfl (.cons rfl .nil))))
  refine Ends.ret3 Tryd.func88 Tryd.results88 hA rfl rfl rfl ?_
  have hje : j = k := by omega
  rw [hdsz, hje]
  exact ⟨rfl, hM.nilL.below⟩
theorem read_any (s : ByteArray) (p : Int) (hsz : s.size ≤ 9223372036854775807) (w : World) : Calls Tryd.prog 88 #[.string s, .int .i64 p] w fun e w' => e = .returned (.tuple #[.int .i64 (readI s p).1, .int .i64 (readI s p).2.1, .int .i64 (readI s p).2.2]) ∧ Below w.heap.size w w' := by
  by_cases h : p < 0 ∨ (s.size : Int) < p
  · have e : readI s p = (0, 0, 1) := by unfold readI; rw [if_pos h]
    rw [e]; exact read_out s p h w
  · obtain ⟨x, rfl⟩ : ∃ x : Nat, p = x := ⟨p.toNat, by omega⟩
    have hx : x ≤ s.size := by omega
    have ex : ((x : Int)).toNat = x := rfl
    obtain ⟨k, hk⟩ : ∃ k, dgs s x = k := ⟨_, rfl⟩
    by_cases h1 : k = 0
    · have e : readI s x = (0, 0, 4) := by unfold readI; rw [if_neg h, ex, hk, if_pos (.inl h1)]
      rw [e]; exact read_none s x k hx hk hsz h1 w
    · by_cases h2 : 1 < k
      · by_cases h3 : byt s x = 48
        · have e : readI s x = (0, 0, 4) := by unfold readI; rw [if_neg h, ex, hk, if_pos (.inr ⟨h2, h3⟩)]
          rw [e]; exact read_nul s x k hx hk hsz h2 h3 w
        · have hn : ¬ (k = 0 ∨ 1 < k ∧ byt s x = 48) := fun hh => hh.elim h1 (fun g => h3 g.2)
          by_cases h4 : 18 < k
          · have e : readI s x = (0, 0, 5) := by unfold readI; rw [if_neg h, ex, hk, if_neg hn, if_pos h4]
            rw [e]; exact read_big s x k hx hk hsz h4 h3 w
          · have e : readI s x = (numv s x k, (x : Int) + (k : Int), 0) := by unfold readI; rw [if_neg h, ex, hk, if_neg hn, if_neg h4]
            rw [e]; exact read_num s x k hx hk hsz ⟨h2, by omega⟩ h3 w
      · have hn : ¬ (k = 0 ∨ 1 < k ∧ byt s x = 48) := fun hh => hh.elim h1 (fun g => h2 g.1)
        have e : readI s x = (numv s x k, (x : Int) + (k : Int), 0) := by unfold readI; rw [if_neg h, ex, hk, if_neg hn, if_neg (by omega)]
        rw [e]; exact read_num1 s x k hx hk hsz (by omega) w
theorem below_gr (w : World) (k : Nat) (os : Array Obj) : Below w.heap.size w (Sort.grow (w.drewN k) os) :=
  ⟨rfl, rfl, rfl, by simp [Sort.grow], fun b hb => by show (w.heap ++ os)[b]? = w.heap[b]?; rw [Array.getElem?_append_left hb]⟩
theorem itoa_any (n : Int) (h : -9223372036854775808 ≤ n ∧ n ≤ 9223372036854775807) (w : World) (htab : Lib.TabIs Tryd.prog w "internal/strconv.uint64pow10" .u64 Lib.pow10Tab) : Calls Tryd.prog 60 #[.int .i64 n] w fun e w' => e = .returned (.string ⟨(Lib.itoa n).toArray⟩) ∧ Below w.heap.size w w' :=
  (Tryd.strconv_Itoa n h.1 h.2 w htab).mono fun e w' ⟨he, k, os, hw⟩ => ⟨he, hw ▸ below_gr w k os⟩
set_option maxRecDepth 100000 in
set_option maxHeartbeats 400000 in
theorem write_any (n : Int) (h : -9223372036854775808 ≤ n ∧ n ≤ 9223372036854775807) (w : World) (htab : Lib.TabIs Tryd.prog w "internal/strconv.uint64pow10" .u64 Lib.pow10Tab) :
    Calls Tryd.prog 43 #[.int .i64 n] w fun e w' => e = .returned (.string ⟨(Lib.itoa n).toArray⟩) ∧ Below w.heap.size w w' := by
  have hM := Mem.start w
  refine Calls.of_ends (vs := [.int .i64 n]) Tryd.func43 rfl Tryd.ntmps43 rfl ?_
  intro a hA
  replace hA : St 5 [(0, _)] a := hA
  refine Ends.seq (Ends.region ?_)
  refine S.val hA (R.assign rfl) rfl ?_; clear hA a; intro a hA
  refine S.done ?_
  refine Ends.seq (Ends.region ?_)
  refine S.val hA (R.move rfl) rfl ?_; clear hA a; intro a hA
  refine S.call hA (R.callF Tryd.func60 rfl rfl rfl) rfl (itoa_any n (by omega) _ (tab_below htab hM.nilL.below)) ?_; clear hA a
  rintro e w1 ⟨rfl, hb⟩
  replace hM := hM.callB hb; clear hb
  refine ⟨.string (⟨(Lib.itoa n).toArray⟩), rfl, fun a hA => ?_⟩
  refine S.val hA (R.assign rfl) rfl ?_; clear hA a; intro a hA
  refine S.done ?_
  refine Ends.ret1 Tryd.func43 Tryd.results43 hA rfl ?_
  exact ⟨rfl, hM.nilL.below⟩
end Go.Proofs.YtakfcekfmdjklaaDoor
namespace Go.Proofs.YtakfcekfmdjklaaDoor
open Go.RowKit
def U8T (w : World) : Prop := Lib.Utf8Tabs 0 1 w
def OffT (F : Nat → Prop) : Prop := ¬ F 0 ∧ ¬ F 1
theorem cell_lt {w : World} {g i : Nat} {v : Value} (h : w.cell? ⟨g, i, none⟩ = some v) : g < w.heap.size := by
  unfold World.cell? at h
  rcases Nat.lt_or_ge g w.heap.size with q | q
  · exact q
  · simp [Array.getElem?_eq_none q] at h
theorem cell_eq {w w' : World} {g i : Nat} (h : w'.heap[g]? = w.heap[g]?) : w'.cell? ⟨g, i, none⟩ = w.cell? ⟨g, i, none⟩ := by
  unfold World.cell?; simp only [h]
theorem U8T.lt {w : World} (h : U8T w) : 0 < w.heap.size ∧ 1 < w.heap.size := ⟨cell_lt (h.1 0 (by decide)), cell_lt (h.2 0 (by decide)).1⟩
theorem U8T.mem {w0 w : World} {F : Nat → Prop} {L : List Ck} (h : U8T w0) (hM : Mem w0 F L w) (hF : OffT F) : U8T w := by
  have h1 := hM.old _ h.lt.1 hF.1
  have h2 := hM.old _ h.lt.2 hF.2
  exact ⟨fun c hc => by rw [cell_eq h1]; exact h.1 c hc, fun i hi => by rw [cell_eq h2, cell_eq h2]; exact h.2 i hi⟩
theorem OffT.nof : OffT nof := ⟨fun h => h, fun h => h⟩
theorem OffT.feet {w0 w : World} {F : Nat → Prop} {L : List Ck} (h : U8T w0) (hM : Mem w0 F L w) (hF : OffT F) : OffT (feet L) :=
  ⟨fun ⟨c, hc, hb⟩ => hF.1 ((hM.inb c hc _ hb).2 h.lt.1), fun ⟨c, hc, hb⟩ => hF.2 ((hM.inb c hc _ hb).2 h.lt.2)⟩
theorem OffT.feetN {w0 w : World} {F : Nat → Prop} {L : List Ck} (h : U8T w0) (hM : Mem w0 F L w) (hF : OffT F) (n : Nat) : OffT (Go.Proofs.YtakfcekfmdjklaaDoor.feet (L.take n)) := OffT.feet h (hM.firstN n) hF
theorem kb_ext {s : ByteArray} {p q : Nat} (h : p ≤ s.size) : kb (s.extract p s.size) q = kb s (p + q) := by
  have hs : (s.extract p s.size).size = s.size - p := size_ext (Nat.le_refl _)
  unfold kb
  by_cases hq : p + q < s.size
  · rw [if_pos (by omega), if_pos hq, byt_ext hq (Nat.le_refl _)]
  · rw [if_neg (by omega), if_neg hq]
theorem read_eq (s : ByteArray) (p N D e0 : Int) (hsz : s.size ≤ 4611686018427387904) (hr : readI s p = (N, D, e0)) (w : World) : Calls Tryd.prog 88 #[.string s, .int .i64 p] w fun e w' => e = .returned (.tuple #[.int .i64 N, .int .i64 D, .int .i64 e0]) ∧ Below w.heap.size w w' := by
  have h := read_any s p (Nat.le_trans hsz (by decide)) w
  rwa [hr] at h
set_option maxRecDepth 100000 in
set_option maxHeartbeats 400000 in
theorem lkind_in (s : ByteArray) (p c : Nat) (lv : Value) (h : p < s.size) (w : World) (hp : w.heap[c]? = some (.cells #[.string s, .int .i64 (p : Int), lv] 75 (0, 0))) (htab : U8T w) :
  Calls Tryd.prog 69 #[.pointer (some ⟨c, 0, none⟩)] w fun e w' => e = .returned (.int .i64 (kb s p)) ∧ Below w.heap.size w w' := by
 have hM := Mem.start w
 refine Calls.of_ends (vs := [.pointer (some ⟨c, 0, none⟩)]) Tryd.func69 rfl Tryd.ntmps69 rfl ?_
 intro a hA
 replace hA : St 30 [(0, _)] a := hA
 refine Ends.seq (Ends.region ?_)
 refine S.val hA (R.assign rfl) rfl ?_; clear hA a; intro a hA
 refine S.done ?_
 refine Ends.seq (Ends.seq ?_)
 refine Ends.drawn (Mem w nof []) (.cons (0, true) (.cons (1, true) (.cons (2, true) (.cons (3, true) (.cons (4, true) (.cons (5, true) (.cons (6, true) (.cons (7, true) (.cons (8, true) (.cons (9, true) .nil)))))))))) 10 mixed (by kernel_rfl) (by kernel_rfl) (by kernel_rfl) hM.drew ?_
 replace hM := hM.drew
 refine D.valF hA rfl (fun _ => R.move rfl) rfl ?_; clear hA a; intro a hA
 refine D.valF hA rfl (fun _ => R.nilCheck rfl) rfl ?_; clear hA a; intro a hA
 refine D.valF hA rfl (fun _ => R.fieldAddr (q := 1) fi75_1 rfl rfl rfl) rfl ?_; clear hA a; intro a hA
 refine D.val hA rfl (by kernel_rfl) (fun _ hM => R.load sz3 rfl (hM.cellB hp rfl)) rfl ?_; clear hA a; intro a hA
 refine D.valF hA rfl (fun _ => R.move rfl) rfl ?_; clear hA a; intro a hA
 refine D.valF hA rfl (fun _ => R.nilCheck rfl) rfl ?_; clear hA a; intro a hA
 refine D.valF hA rfl (fun _ => R.fieldAddr (q := 0) fi75_0 rfl rfl rfl) rfl ?_; clear hA a; intro a hA
 refine D.val hA rfl (by kernel_rfl) (fun _ hM => R.load sz9 rfl (hM.cellB hp rfl)) rfl ?_; clear hA a; intro a hA
 refine D.valF hA rfl (fun _ => R.lenStr Tryd.underlying9 rfl rfl) rfl ?_; clear hA a; intro a hA
 refine D.valF hA rfl (fun _ => R.ff (R.geq rfl rfl) (by omega)) rfl ?_; clear hA a; intro a hA
 refine D.done ?_
 replace hA : St 30 [(0, _), (14, _)] a := hA.sub ((.cons rfl (.cons rfl .nil)))
 refine Ends.condF hA rfl ?_
 refine Ends.skip (Ends.seq ?_)
 refine Ends.drawn (Mem w nof []) (.cons (0, true) (.cons (1, true) (.cons (2, true) (.cons (3, true) (.cons (4, true) (.cons (5, true) (.cons (6, true) (.cons (7, true) (.cons (8, true) (.cons (9, false) (.cons (10, true) (.cons (11, true) (.cons (12, true) (.cons (13, true) (.cons (14, true) .nil))))))))))))))) 15 mixed (by kernel_rfl) (by kernel_rfl) (by kernel_rfl) hM.drew ?_
 replace hM := hM.drew
 refine D.valF hA rfl (fun _ => R.move rfl) rfl ?_; clear hA a; intro a hA
 refine D.valF hA rfl (fun _ => R.nilCheck rfl) rfl ?_; clear hA a; intro a hA
 refine D.valF hA rfl (fun _ => R.fieldAddr (q := 0) fi75_0 rfl rfl rfl) rfl ?_; clear hA a; intro a hA
 refine D.val hA rfl (by kernel_rfl) (fun _ hM => R.load sz9 rfl (hM.cellB hp rfl)) rfl ?_; clear hA a; intro a hA
 refine D.valF hA rfl (fun _ => R.move rfl) rfl ?_; clear hA a; intro a hA
 refine D.valF hA rfl (fun _ => R.nilCheck rfl) rfl ?_; clear hA a; intro a hA
 refine D.valF hA rfl (fun _ => R.fieldAddr (q := 1) fi75_1 rfl rfl rfl) rfl ?_; clear hA a; intro a hA
 refine D.val hA rfl (by kernel_rfl) (fun _ hM => R.load sz3 rfl (hM.cellB hp rfl)) rfl ?_; clear hA a; intro a hA
 refine D.valF hA rfl (fun _ => R.to (v := .string ((s.extract p s.size))) (R.sliceSL Tryd.underlying9 rfl rfl (by omega)) (by first | rfl | (congr 2; done) | (congr 2 <;> omega))) rfl ?_; clear hA a; intro a hA
 refine D.call hA rfl (R.callF Tryd.func85 rfl rfl rfl) rfl (Tryd.utf8_DecodeRuneInString ((s.extract p s.size)) _ (htab.mem hM OffT.nof)) ?_; clear hA a
 rintro e w1 ⟨rfl, hb⟩
 replace hM := hM.callB hb; clear hb
 refine ⟨.tuple #[.int .i32 (((Lib.decodeGo ((s.extract p s.size))).1 : Int)), .int .i64 (((Lib.decodeGo ((s.extract p s.size))).2 : Int))], rfl, hM, fun a hA => ?_⟩
 refine D.valF hA rfl (fun _ => R.move rfl) rfl ?_; clear hA a; intro a hA
 refine D.valF hA rfl (fun _ => R.extract (v := .int .i32 (((Lib.decodeGo ((s.extract p s.size))).1 : Int))) rfl rfl) rfl ?_; clear hA a; intro a hA
 refine D.valF hA rfl (fun _ => R.extract (v := .int .i64 (((Lib.decodeGo ((s.extract p s.size))).2 : Int))) rfl rfl) rfl ?_; clear hA a; intro a hA
 refine D.valF hA rfl (fun _ => R.assign rfl) rfl ?_; clear hA a; intro a hA
 refine D.valF hA rfl (fun _ => R.assign rfl) rfl ?_; clear hA a; intro a hA
 refine D.done ?_
 replace hA : St 30 [(3, _)] a := hA.sub ((.cons rfl .nil))
 refine Ends.seq (Ends.region ?_)
 refine S.val hA (R.move rfl) rfl ?_; clear hA a; intro a hA
 refine S.call hA (R.callF Tryd.func86 rfl rfl rfl) rfl (kind_any (((Lib.decodeGo ((s.extract p s.size))).1 : Int)) _) ?_; clear hA a
 rintro e w2 ⟨rfl, hb⟩
 replace hM := hM.callB hb; clear hb
 refine ⟨.int .i64 (kindI (((Lib.decodeGo ((s.extract p s.size))).1 : Int))), rfl, fun a hA => ?_⟩
 refine S.val hA (R.assign rfl) rfl ?_; clear hA a; intro a hA
 refine S.done ?_
 refine Ends.ret1 Tryd.func69 Tryd.results69 hA rfl ?_
 rw [dgo_kb h]
 exact ⟨rfl, hM.nilL.below⟩
set_option maxRecDepth 100000 in
set_option maxHeartbeats 400000 in
theorem lkind_out (s : ByteArray) (p c : Nat) (lv : Value) (h : ¬ p < s.size) (w : World) (hp : w.heap[c]? = some (.cells #[.string s, .int .i64 (p : Int), lv] 75 (0, 0))) :
    Calls Tryd.prog 69 #[.pointer (some ⟨c, 0, none⟩)] w fun e w' => e = .returned (.int .i64 (kb s p)) ∧ Below w.heap.size w w' := by
  have hM := Mem.start w
  refine Calls.of_ends (vs := [.pointer (some ⟨c, 0, none⟩)]) Tryd.func69 rfl Tryd.ntmps69 rfl ?_
  intro a hA
  replace hA : St 30 [(0, _)] a := hA
  refine Ends.seq (Ends.region ?_)
  refine S.val hA (R.assign rfl) rfl ?_; clear hA a; intro a hA
  refine S.done ?_
  refine Ends.seq (Ends.seq ?_)
  refine Ends.drawn (Mem w nof []) (.cons (0, true) (.cons (1, true) (.cons (2, true) (.cons (3, true) (.cons (4, true) (.cons (5, true) (.cons (6, true) (.cons (7, true) (.cons (8, true) (.cons (9, true) .nil)))))))))) 10 mixed (by kernel_rfl) (by kernel_rfl) (by kernel_rfl) hM.drew ?_
  replace hM := hM.drew
  refine D.valF hA rfl (fun _ => R.move rfl) rfl ?_; clear hA a; intro a hA
  refine D.valF hA rfl (fun _ => R.nilCheck rfl) rfl ?_; clear hA a; intro a hA
  refine D.valF hA rfl (fun _ => R.fieldAddr (q := 1) fi75_1 rfl rfl rfl) rfl ?_; clear hA a; intro a hA
  refine D.val hA rfl (by kernel_rfl) (fun _ hM => R.load sz3 rfl (hM.cellB hp rfl)) rfl ?_; clear hA a; intro a hA
  refine D.valF hA rfl (fun _ => R.move rfl) rfl ?_; clear hA a; intro a hA
  refine D.valF hA rfl (fun _ => R.nilCheck rfl) rfl ?_; clear hA a; intro a hA
  refine D.valF hA rfl (fun _ => R.fieldAddr (q := 0) fi75_0 rfl rfl rfl) rfl ?_; clear hA a; intro a hA
  refine D.val hA rfl (by kernel_rfl) (fun _ hM => R.load sz9 rfl (hM.cellB hp rfl)) rfl ?_; clear hA a; intro a hA
  refine D.valF hA rfl (fun _ => R.lenStr Tryd.underlying9 rfl rfl) rfl ?_; clear hA a; intro a hA
  refine D.valF hA rfl (fun _ => R.tt (R.geq rfl rfl) (by omega)) rfl ?_; clear hA a; intro a hA
  refine D.done ?_
  replace hA : St 30 [(0, _), (14, _)] a := hA.sub ((.cons rfl (.cons rfl .nil)))
  refine Ends.condT hA rfl ?_
  refine Ends.seq (Ends.region ?_)
  refine S.val hA (R.assign rfl) rfl ?_; clear hA a; intro a hA
  refine S.done ?_
  refine Ends.ret1 Tryd.func69 Tryd.results69 hA rfl ?_
  rw [kb_out h]
  exact ⟨rfl, hM.nilL.below⟩
theorem lkind (s : ByteArray) (p c : Nat) (lv : Value) (w : World) (hp : w.heap[c]? = some (.cells #[.string s, .int .i64 (p : Int), lv] 75 (0, 0))) (htab : U8T w) : Calls Tryd.prog 69 #[.pointer (some ⟨c, 0, none⟩)] w fun e w' => e = .returned (.int .i64 (kb s p)) ∧ Below w.heap.size w w' := by
  by_cases h : p < s.size
  · exact lkind_in s p c lv h w hp htab
  · exact lkind_out s p c lv h w hp
set_option maxRecDepth 100000 in
set_option maxHeartbeats 400000 in
theorem lremark_n (s : ByteArray) (p c : Nat) (v : Option Addr) (cap : Nat) (X : List Tok) (hp : p < s.size) (hX : X.length ≤ 1000000) (hsz : s.size ≤ 1000000) (h : Lib.indexByte (s.extract p s.size).data.toList 10 = -1) (w : World) (hM : Mem w (feet [pt c #[.string s, .int .i64 ((p : Int)), .slice v X.length cap] 75, own 77 4 (.slice v X.length cap) X.length (tokv X)]) [pt c #[.string s, .int .i64 ((p : Int)), .slice v X.length cap] 75, own 77 4 (.slice v X.length cap) X.length (tokv X)] w) (htab : U8T w) (hoff : OffT (feet [pt c #[.string s, .int .i64 ((p : Int)), .slice v X.length cap] 75, own 77 4 (.slice v X.length cap) X.length (tokv X)])) :
  Calls Tryd.prog 70 #[.pointer (some ⟨c, 0, none⟩)] w fun e w' => e = .returned (.tuple #[]) ∧ Mem w (feet [pt c #[.string s, .int .i64 ((p : Int)), .slice v X.length cap] 75, own 77 4 (.slice v X.length cap) X.length (tokv X)]) [pt c #[.string s, .int .i64 ((s.size : Int)), .slice v X.length cap] 75, own 77 4 (.slice v X.length cap) X.length (tokv X)] w' := by
 refine Calls.of_ends (vs := [.pointer (some ⟨c, 0, none⟩)]) Tryd.func70 rfl Tryd.ntmps70 rfl ?_
 intro a hA
 replace hA : St 31 [(0, _)] a := hA
 refine Ends.seq ?_
 refine Ends.drawn (Mem w (feet [pt c #[.string s, .int .i64 ((p : Int)), .slice v X.length cap] 75, own 77 4 (.slice v X.length cap) X.length (tokv X)]) [pt c #[.string s, .int .i64 ((p : Int)), .slice v X.length cap] 75, own 77 4 (.slice v X.length cap) X.length (tokv X)]) (.cons (0, true) (.cons (1, true) (.cons (2, true) (.cons (3, true) (.cons (4, true) (.cons (5, true) (.cons (6, true) (.cons (7, true) (.cons (8, true) (.cons (9, false) (.cons (10, true) .nil))))))))))) 11 mixed (by kernel_rfl) (by kernel_rfl) (by kernel_rfl) hM.drew ?_
 replace hM := hM.drew
 refine D.valF hA rfl (fun _ => R.move rfl) rfl ?_; clear hA a; intro a hA
 refine D.valF hA rfl (fun _ => R.nilCheck rfl) rfl ?_; clear hA a; intro a hA
 refine D.valF hA rfl (fun _ => R.fieldAddr (q := 0) fi75_0 rfl rfl rfl) rfl ?_; clear hA a; intro a hA
 refine D.val hA rfl (by kernel_rfl) (fun _ hM => R.load sz9 rfl (hM.cell (k := 0) rfl rfl)) rfl ?_; clear hA a; intro a hA
 refine D.valF hA rfl (fun _ => R.move rfl) rfl ?_; clear hA a; intro a hA
 refine D.valF hA rfl (fun _ => R.nilCheck rfl) rfl ?_; clear hA a; intro a hA
 refine D.valF hA rfl (fun _ => R.fieldAddr (q := 1) fi75_1 rfl rfl rfl) rfl ?_; clear hA a; intro a hA
 refine D.val hA rfl (by kernel_rfl) (fun _ hM => R.load sz3 rfl (hM.cell (k := 0) rfl rfl)) rfl ?_; clear hA a; intro a hA
 refine D.valF hA rfl (fun _ => R.to (v := .string ((s.extract p s.size))) (R.sliceSL Tryd.underlying9 rfl rfl (by omega)) (by first | rfl | (congr 2; done) | (congr 2 <;> omega))) rfl ?_; clear hA a; intro a hA
 refine D.call hA rfl (R.callF Tryd.func87 rfl rfl rfl) rfl ((Tryd.strings_IndexByte ((s.extract p s.size)) 10 _)) ?_; clear hA a
 rintro e w1 ⟨rfl, rfl⟩
 refine ⟨.int .i64 (Lib.indexByte ((s.extract p s.size)).data.toList 10), rfl, hM, fun a hA => ?_⟩
 refine D.valF hA rfl (fun _ => R.assign rfl) rfl ?_; clear hA a; intro a hA
 refine D.done ?_
 replace hA : St 31 [(0, _), (2, _)] a := hA.sub ((.cons rfl (.cons rfl .nil)))
 refine Ends.seq (Ends.seq (Ends.region ?_))
 refine S.val hA (R.move rfl) rfl ?_; clear hA a; intro a hA
 refine S.val hA (R.tt (R.lss rfl rfl) (by rw [h]; decide)) rfl ?_; clear hA a; intro a hA
 refine S.done ?_
 refine Ends.condT hA rfl ?_
 refine Ends.seq (Ends.region ?_)
 refine S.val hA (R.move rfl) rfl ?_; clear hA a; intro a hA
 refine S.val hA (R.move rfl) rfl ?_; clear hA a; intro a hA
 refine S.val hA (R.nilCheck rfl) rfl ?_; clear hA a; intro a hA
 refine S.val hA (R.fieldAddr (q := 0) fi75_0 rfl rfl rfl) rfl ?_; clear hA a; intro a hA
 refine S.val hA (R.load sz9 rfl (hM.cell (k := 0) rfl rfl)) rfl ?_; clear hA a; intro a hA
 refine S.val hA (R.lenStr Tryd.underlying9 rfl rfl) rfl ?_; clear hA a; intro a hA
 refine S.val hA (R.nilCheck rfl) rfl ?_; clear hA a; intro a hA
 refine S.val hA (R.fieldAddr (q := 1) fi75_1 rfl rfl rfl) rfl ?_; clear hA a; intro a hA
 refine S.store (k := 0) hA hM sz3 rfl rfl rfl rfl rfl ?_; clear hM
 intro w2 hM
 replace hM : Mem _ _ [pt c #[.string s, .int .i64 ((s.size : Int)), .slice v X.length cap] 75, own 77 4 (.slice v X.length cap) X.length (tokv X)] _ := hM
 refine S.done ?_
 replace hA : St 31 [(0, _), (2, _)] a := hA.sub ((.cons rfl (.cons rfl .nil)))
 refine Ends.ret0 Tryd.func70 Tryd.results70 hA ?_
 replace hM := hM.firstN 2
 replace hM : Mem _ _ [pt c #[.string s, .int .i64 ((s.size : Int)), .slice v X.length cap] 75, own 77 4 (.slice v X.length cap) X.length (tokv X)] _ := hM
 exact ⟨rfl, hM⟩
set_option maxRecDepth 100000 in
set_option maxHeartbeats 400000 in
theorem lremark_s (s : ByteArray) (p c : Nat) (v : Option Addr) (cap : Nat) (X : List Tok) (hp : p < s.size) (hX : X.length ≤ 1000000) (hsz : s.size ≤ 1000000) (h : Lib.indexByte (s.extract p s.size).data.toList 10 = (eol s p : Int)) (w : World) (hM : Mem w (feet [pt c #[.string s, .int .i64 ((p : Int)), .slice v X.length cap] 75, own 77 4 (.slice v X.length cap) X.length (tokv X)]) [pt c #[.string s, .int .i64 ((p : Int)), .slice v X.length cap] 75, own 77 4 (.slice v X.length cap) X.length (tokv X)] w) (htab : U8T w) (hoff : OffT (feet [pt c #[.string s, .int .i64 ((p : Int)), .slice v X.length cap] 75, own 77 4 (.slice v X.length cap) X.length (tokv X)])) :
  Calls Tryd.prog 70 #[.pointer (some ⟨c, 0, none⟩)] w fun e w' => e = .returned (.tuple #[]) ∧ Mem w (feet [pt c #[.string s, .int .i64 ((p : Int)), .slice v X.length cap] 75, own 77 4 (.slice v X.length cap) X.length (tokv X)]) [pt c #[.string s, .int .i64 (((p + eol s p : Nat) : Int)), .slice v X.length cap] 75, own 77 4 (.slice v X.length cap) X.length (tokv X)] w' := by
 refine Calls.of_ends (vs := [.pointer (some ⟨c, 0, none⟩)]) Tryd.func70 rfl Tryd.ntmps70 rfl ?_
 intro a hA
 replace hA : St 31 [(0, _)] a := hA
 refine Ends.seq ?_
 refine Ends.drawn (Mem w (feet [pt c #[.string s, .int .i64 ((p : Int)), .slice v X.length cap] 75, own 77 4 (.slice v X.length cap) X.length (tokv X)]) [pt c #[.string s, .int .i64 ((p : Int)), .slice v X.length cap] 75, own 77 4 (.slice v X.length cap) X.length (tokv X)]) (.cons (0, true) (.cons (1, true) (.cons (2, true) (.cons (3, true) (.cons (4, true) (.cons (5, true) (.cons (6, true) (.cons (7, true) (.cons (8, true) (.cons (9, false) (.cons (10, true) .nil))))))))))) 11 mixed (by kernel_rfl) (by kernel_rfl) (by kernel_rfl) hM.drew ?_
 replace hM := hM.drew
 refine D.valF hA rfl (fun _ => R.move rfl) rfl ?_; clear hA a; intro a hA
 refine D.valF hA rfl (fun _ => R.nilCheck rfl) rfl ?_; clear hA a; intro a hA
 refine D.valF hA rfl (fun _ => R.fieldAddr (q := 0) fi75_0 rfl rfl rfl) rfl ?_; clear hA a; intro a hA
 refine D.val hA rfl (by kernel_rfl) (fun _ hM => R.load sz9 rfl (hM.cell (k := 0) rfl rfl)) rfl ?_; clear hA a; intro a hA
 refine D.valF hA rfl (fun _ => R.move rfl) rfl ?_; clear hA a; intro a hA
 refine D.valF hA rfl (fun _ => R.nilCheck rfl) rfl ?_; clear hA a; intro a hA
 refine D.valF hA rfl (fun _ => R.fieldAddr (q := 1) fi75_1 rfl rfl rfl) rfl ?_; clear hA a; intro a hA
 refine D.val hA rfl (by kernel_rfl) (fun _ hM => R.load sz3 rfl (hM.cell (k := 0) rfl rfl)) rfl ?_; clear hA a; intro a hA
 refine D.valF hA rfl (fun _ => R.to (v := .string ((s.extract p s.size))) (R.sliceSL Tryd.underlying9 rfl rfl (by omega)) (by first | rfl | (congr 2; done) | (congr 2 <;> omega))) rfl ?_; clear hA a; intro a hA
 refine D.call hA rfl (R.callF Tryd.func87 rfl rfl rfl) rfl ((Tryd.strings_IndexByte ((s.extract p s.size)) 10 _)) ?_; clear hA a
 rintro e w1 ⟨rfl, rfl⟩
 refine ⟨.int .i64 (Lib.indexByte ((s.extract p s.size)).data.toList 10), rfl, hM, fun a hA => ?_⟩
 refine D.valF hA rfl (fun _ => R.assign rfl) rfl ?_; clear hA a; intro a hA
 refine D.done ?_
 replace hA : St 31 [(0, _), (2, _)] a := hA.sub ((.cons rfl (.cons rfl .nil)))
 refine Ends.seq (Ends.seq (Ends.region ?_))
 refine S.val hA (R.move rfl) rfl ?_; clear hA a; intro a hA
 refine S.val hA (R.ff (R.lss rfl rfl) (by rw [h]; omega)) rfl ?_; clear hA a; intro a hA
 refine S.done ?_
 refine Ends.condF hA rfl ?_
 refine Ends.skip (Ends.region ?_)
 refine S.val hA (R.move rfl) rfl ?_; clear hA a; intro a hA
 refine S.val hA (R.nilCheck rfl) rfl ?_; clear hA a; intro a hA
 refine S.val hA (R.fieldAddr (q := 1) fi75_1 rfl rfl rfl) rfl ?_; clear hA a; intro a hA
 refine S.val hA (R.load sz3 rfl (hM.cell (k := 0) rfl rfl)) rfl ?_; clear hA a; intro a hA
 refine S.val hA (R.move rfl) rfl ?_; clear hA a; intro a hA
 refine S.val hA (R.addI rfl rfl (r := ((p + eol s p : Nat) : Int)) (by omega) (by have := eol_le s (Nat.le_of_lt hp); omega)) rfl ?_; clear hA a; intro a hA
 refine S.val hA (R.nilCheck rfl) rfl ?_; clear hA a; intro a hA
 refine S.val hA (R.fieldAddr (q := 1) fi75_1 rfl rfl rfl) rfl ?_; clear hA a; intro a hA
 refine S.store (k := 0) hA hM sz3 rfl rfl rfl rfl rfl ?_; clear hM
 intro w2 hM
 replace hM : Mem _ _ [pt c #[.string s, .int .i64 (((p + eol s p : Nat) : Int)), .slice v X.length cap] 75, own 77 4 (.slice v X.length cap) X.length (tokv X)] _ := hM
 refine S.done ?_
 replace hA : St 31 [] a := hA.sub (.nil)
 refine Ends.end0 Tryd.func70 Tryd.results70 hA ?_
 replace hM := hM.firstN 2
 replace hM : Mem _ _ [pt c #[.string s, .int .i64 (((p + eol s p : Nat) : Int)), .slice v X.length cap] 75, own 77 4 (.slice v X.length cap) X.length (tokv X)] _ := hM
 exact ⟨rfl, hM⟩
theorem lremark (s : ByteArray) (p c : Nat) (v : Option Addr) (cap : Nat) (X : List Tok) (hp : p < s.size) (hX : X.length ≤ 1000000) (hsz : s.size ≤ 1000000) (w : World) (hM : Mem w (feet [pt c #[.string s, .int .i64 ((p : Int)), .slice v X.length cap] 75, own 77 4 (.slice v X.length cap) X.length (tokv X)]) [pt c #[.string s, .int .i64 ((p : Int)), .slice v X.length cap] 75, own 77 4 (.slice v X.length cap) X.length (tokv X)] w) (htab : U8T w) (hoff : OffT (feet [pt c #[.string s, .int .i64 ((p : Int)), .slice v X.length cap] 75, own 77 4 (.slice v X.length cap) X.length (tokv X)])) : Calls Tryd.prog 70 #[.pointer (some ⟨c, 0, none⟩)] w fun e w' => e = .returned (.tuple #[]) ∧ Mem w (feet [pt c #[.string s, .int .i64 ((p : Int)), .slice v X.length cap] 75, own 77 4 (.slice v X.length cap) X.length (tokv X)]) [pt c #[.string s, .int .i64 (((p + eol s p : Nat) : Int)), .slice v X.length cap] 75, own 77 4 (.slice v X.length cap) X.length (tokv X)] w' := by
  rcases ixb_eol (s := s) (p := p) (Nat.le_of_lt hp) with ⟨h1, h2⟩ | ⟨h1, h2⟩
  · have h := lremark_n s p c v cap X hp hX hsz h1 w hM htab hoff
    rwa [← h2] at h
  · exact lremark_s s p c v cap X hp hX hsz h1 w hM htab hoff
set_option maxRecDepth 100000 in
set_option maxHeartbeats 400000 in
theorem lword_big (s : ByteArray) (p c : Nat) (v : Option Addr) (cap : Nat) (X : List Tok) (hp : p < s.size) (hX : X.length ≤ 1000000) (hsz : s.size ≤ 1000000) (h : 16 < ltrs s p) (w : World) (hM : Mem w (feet [pt c #[.string s, .int .i64 ((p : Int)), .slice v X.length cap] 75, own 77 4 (.slice v X.length cap) X.length (tokv X)]) [pt c #[.string s, .int .i64 ((p : Int)), .slice v X.length cap] 75, own 77 4 (.slice v X.length cap) X.length (tokv X)] w) (htab : U8T w) (hoff : OffT (feet [pt c #[.string s, .int .i64 ((p : Int)), .slice v X.length cap] 75, own 77 4 (.slice v X.length cap) X.length (tokv X)])) :
  Calls Tryd.prog 71 #[.pointer (some ⟨c, 0, none⟩)] w fun e w' => e = .returned (.int .i64 5) ∧ Mem w (feet [pt c #[.string s, .int .i64 ((p : Int)), .slice v X.length cap] 75, own 77 4 (.slice v X.length cap) X.length (tokv X)]) [pt c #[.string s, .int .i64 ((p : Int)), .slice v X.length cap] 75, own 77 4 (.slice v X.length cap) X.length (tokv X)] w' := by
 refine Calls.of_ends (vs := [.pointer (some ⟨c, 0, none⟩)]) Tryd.func71 rfl Tryd.ntmps71 rfl ?_
 intro a hA
 replace hA : St 66 [(0, _)] a := hA
 refine Ends.seq (Ends.region ?_)
 refine S.val hA (R.assign rfl) rfl ?_; clear hA a; intro a hA
 refine S.done ?_
 refine Ends.seq (Ends.region ?_)
 refine S.val hA (R.assign rfl) rfl ?_; clear hA a; intro a hA
 refine S.done ?_
 refine Ends.seq (Ends.seq ?_)
 refine Ends.drawn (Mem w (feet [pt c #[.string s, .int .i64 ((p : Int)), .slice v X.length cap] 75, own 77 4 (.slice v X.length cap) X.length (tokv X)]) [pt c #[.string s, .int .i64 ((p : Int)), .slice v X.length cap] 75, own 77 4 (.slice v X.length cap) X.length (tokv X)]) (.cons (0, true) (.cons (1, true) (.cons (2, true) (.cons (3, true) (.cons (4, true) (.cons (5, true) (.cons (6, true) (.cons (7, true) (.cons (8, true) (.cons (9, false) .nil)))))))))) 10 mixed (by kernel_rfl) (by kernel_rfl) (by kernel_rfl) hM.drew ?_
 replace hM := hM.drew
 refine D.valF hA rfl (fun _ => R.move rfl) rfl ?_; clear hA a; intro a hA
 refine D.valF hA rfl (fun _ => R.nilCheck rfl) rfl ?_; clear hA a; intro a hA
 refine D.valF hA rfl (fun _ => R.fieldAddr (q := 0) fi75_0 rfl rfl rfl) rfl ?_; clear hA a; intro a hA
 refine D.val hA rfl (by kernel_rfl) (fun _ hM => R.load sz9 rfl (hM.cell (k := 0) rfl rfl)) rfl ?_; clear hA a; intro a hA
 refine D.valF hA rfl (fun _ => R.move rfl) rfl ?_; clear hA a; intro a hA
 refine D.valF hA rfl (fun _ => R.nilCheck rfl) rfl ?_; clear hA a; intro a hA
 refine D.valF hA rfl (fun _ => R.fieldAddr (q := 1) fi75_1 rfl rfl rfl) rfl ?_; clear hA a; intro a hA
 refine D.val hA rfl (by kernel_rfl) (fun _ hM => R.load sz3 rfl (hM.cell (k := 0) rfl rfl)) rfl ?_; clear hA a; intro a hA
 refine D.valF hA rfl (fun _ => R.to (v := .string ((s.extract p s.size))) (R.sliceSL Tryd.underlying9 rfl rfl (by omega)) (by first | rfl | (congr 2; done) | (congr 2 <;> omega))) rfl ?_; clear hA a; intro a hA
 refine D.rangeS hA hM rfl Tryd.underlying9 rfl rfl ?_; clear hA hM a; intro b1 w1 hb2 hM
 refine ⟨(hM.drop 0), fun a hA => ?_⟩
 replace hM : Mem _ _ [itC b1 ((s.extract p s.size)) 0, pt c #[.string s, .int .i64 ((p : Int)), .slice v X.length cap] 75, own 77 4 (.slice v X.length cap) X.length (tokv X)] _ := hM
 refine D.done ?_
 replace hA : St 66 [(0, _), (3, _), (15, _)] a := hA.sub ((.cons rfl (.cons rfl (.cons rfl .nil))))
 refine Ends.block ?_
 have hes : (s.extract p s.size).size = s.size - p := size_ext (Nat.le_refl _)
 refine Ends.loop (σ := Nat) (fun q (a : Act) (wv : World) => St 66 [(0, .pointer (some ⟨c, 0, none⟩)), (3, .int .i64 ((q : Int))), (15, .pointer (some ⟨b1, 0, none⟩))] a ∧ Mem w (feet [pt c #[.string s, .int .i64 ((p : Int)), .slice v X.length cap] 75, own 77 4 (.slice v X.length cap) X.length (tokv X)]) [itC b1 ((s.extract p s.size)) q, pt c #[.string s, .int .i64 ((p : Int)), .slice v X.length cap] 75, own 77 4 (.slice v X.length cap) X.length (tokv X)] wv ∧ (p + q ≤ s.size) ∧ (∀ j, j < q → kb s (p + j) = 3)) (fun q => s.size - q) 0 ⟨hA.sub ((.cons rfl (.cons rfl (.cons rfl .nil)))), hM, (by omega), (fun j hj => absurd hj (Nat.not_lt_zero j))⟩ ?_
 clear hA hM a
 rintro q a w2 ⟨hA, hM, hq, hl⟩ hNext
 refine Ends.seq (Ends.region ?_)
 by_cases hp3 : q < ((s.extract p s.size)).size
 ·
  refine S.nextT (k := 0) hA hM rfl rfl hp3 rfl ?_; clear hA hM a; intro w3 hM a hA
  replace hM : Mem _ _ [itC b1 ((s.extract p s.size)) ((q + (Utf8.decode ((s.extract p s.size)) q).2)), pt c #[.string s, .int .i64 ((p : Int)), .slice v X.length cap] 75, own 77 4 (.slice v X.length cap) X.length (tokv X)] _ := hM
  refine S.val hA (R.extract (v := .bool true) rfl rfl) rfl ?_; clear hA a; intro a hA
  refine S.done ?_
  refine Ends.seq ?_
  refine Ends.condT hA rfl ?_
  refine Ends.skip (Ends.block (Ends.seq (Ends.region ?_)))
  refine S.val hA (R.extract (v := .int .i32 (((Utf8.decode ((s.extract p s.size)) q).1 : Int))) rfl rfl) rfl ?_; clear hA a; intro a hA
  refine S.val hA (R.assign rfl) rfl ?_; clear hA a; intro a hA
  refine S.done ?_
  refine Ends.seq (Ends.seq (Ends.region ?_))
  refine S.val hA (R.move rfl) rfl ?_; clear hA a; intro a hA
  refine S.call hA (R.callF Tryd.func86 rfl rfl rfl) rfl (kind_any (((Utf8.decode ((s.extract p s.size)) q).1 : Int)) _) ?_; clear hA a
  rintro e w4 ⟨rfl, hb⟩
  replace hM := hM.callB hb; clear hb
  refine ⟨.int .i64 (kindI (((Utf8.decode ((s.extract p s.size)) q).1 : Int))), rfl, fun a hA => ?_⟩
  refine S.val hA (R.neq rfl rfl) rfl ?_; clear hA a; intro a hA
  refine S.done ?_
  replace hA : St 66 [(0, _), (3, _), (15, _), (21, _)] a := hA.sub ((.cons rfl (.cons rfl (.cons rfl (.cons rfl .nil)))))
  refine Ends.ite hA rfl (fun hc4 => ?_) (fun hc4 => ?_)
  ·
   refine Ends.exit rfl ?_
   refine Ends.seq (Ends.seq ?_)
   have hq4 : kb s (p + q) ≠ 3 := by have h9 := hc4; rw [(dec_kb hp3).1, kb_ext (Nat.le_of_lt hp)] at h9; exact h9
   have hlq : ltrs s p = q := ltrs_uniq hl hq4
   refine Ends.region ?_
   refine S.val hA (R.move rfl) rfl ?_; clear hA a; intro a hA
   refine S.val hA (R.tt (R.gtr rfl rfl) (by omega)) rfl ?_; clear hA a; intro a hA
   refine S.done ?_
   refine Ends.condT hA rfl ?_
   refine Ends.seq (Ends.region ?_)
   refine S.val hA (R.assign rfl) rfl ?_; clear hA a; intro a hA
   refine S.done ?_
   replace hA : St 66 [(0, _), (2, _), (3, _)] a := hA.sub ((.cons rfl (.cons rfl (.cons rfl .nil))))
   refine Ends.ret1 Tryd.func71 Tryd.results71 hA rfl ?_
   replace hM := hM.front (k := 2) rfl
   replace hM := hM.front (k := 2) rfl
   replace hM : Mem _ _ [pt c #[.string s, .int .i64 ((p : Int)), .slice v X.length cap] 75, own 77 4 (.slice v X.length cap) X.length (tokv X), itC b1 ((s.extract p s.size)) ((q + (Utf8.decode ((s.extract p s.size)) q).2))] _ := hM
   replace hM := hM.firstN 2
   replace hM : Mem _ _ [pt c #[.string s, .int .i64 ((p : Int)), .slice v X.length cap] 75, own 77 4 (.slice v X.length cap) X.length (tokv X)] _ := hM
   exact ⟨rfl, hM⟩
  ·
   refine Ends.skip (Ends.region ?_)
   refine S.val hA (R.move rfl) rfl ?_; clear hA a; intro a hA
   refine S.val hA (R.addI rfl rfl (r := ((q : Int)) + 1) rfl (by omega)) rfl ?_; clear hA a; intro a hA
   refine S.val hA (R.assign rfl) rfl ?_; clear hA a; intro a hA
   refine S.done ?_
   refine Ends.inBlock ?_
   have hq3 := Classical.byContradiction hc4
   have hd := dec_kb hp3
   rw [hd.1, kb_ext (Nat.le_of_lt hp)] at hq3
   rw [hd.2 (by rw [kb_ext (Nat.le_of_lt hp), hq3]; decide)] at hM
   exact hNext ((q + 1)) _ _ ((by show s.size - (q + 1) < s.size - q; omega)) ⟨hA.sub ((.cons rfl (.cons rfl (.cons rfl .nil)))), hM, (by omega), (fun j hj => by rcases Nat.lt_or_ge j q with g | g; exact hl j g; have e : j = q := (by omega); exact e ▸ hq3)⟩
 ·
  refine S.val hA (R.nextF (k := 0) hM rfl rfl hp3) rfl ?_; clear hA a; intro a hA
  refine S.val hA (R.extract (v := .bool false) rfl rfl) rfl ?_; clear hA a; intro a hA
  refine S.done ?_
  refine Ends.seq ?_
  refine Ends.condF hA rfl ?_
  refine Ends.exit rfl ?_
  refine Ends.seq (Ends.seq ?_)
  have hq4 : kb s (p + q) ≠ 3 := by rw [kb_out (by omega)]; decide
  have hlq : ltrs s p = q := ltrs_uniq hl hq4
  refine Ends.region ?_
  refine S.val hA (R.move rfl) rfl ?_; clear hA a; intro a hA
  refine S.val hA (R.tt (R.gtr rfl rfl) (by omega)) rfl ?_; clear hA a; intro a hA
  refine S.done ?_
  replace hA : St 66 [(0, _), (3, _), (25, _)] a := hA.sub ((.cons rfl (.cons rfl (.cons rfl .nil))))
  refine Ends.condT hA rfl ?_
  refine Ends.seq (Ends.region ?_)
  refine S.val hA (R.assign rfl) rfl ?_; clear hA a; intro a hA
  refine S.done ?_
  refine Ends.ret1 Tryd.func71 Tryd.results71 hA rfl ?_
  replace hM := hM.front (k := 2) rfl
  replace hM := hM.front (k := 2) rfl
  replace hM : Mem _ _ [pt c #[.string s, .int .i64 ((p : Int)), .slice v X.length cap] 75, own 77 4 (.slice v X.length cap) X.length (tokv X), itC b1 ((s.extract p s.size)) q] _ := hM
  replace hM := hM.firstN 2
  replace hM : Mem _ _ [pt c #[.string s, .int .i64 ((p : Int)), .slice v X.length cap] 75, own 77 4 (.slice v X.length cap) X.length (tokv X)] _ := hM
  exact ⟨rfl, hM⟩
set_option maxRecDepth 100000 in
set_option maxHeartbeats 400000 in
theorem lword_s (s : ByteArray) (p c : Nat) (v : Option Addr) (cap : Nat) (X : List Tok) (hp : p < s.size) (hX : X.length ≤ 1000000) (hsz : s.size ≤ 1000000) (h : ¬ 16 < ltrs s p) (h2 : kb s (p + ltrs s p) = 2) (w : World) (hM : Mem w (feet [pt c #[.string s, .int .i64 ((p : Int)), .slice v X.length cap] 75, own 77 4 (.slice v X.length cap) X.length (tokv X)]) [pt c #[.string s, .int .i64 ((p : Int)), .slice v X.length cap] 75, own 77 4 (.slice v X.length cap) X.length (tokv X)] w) (htab : U8T w) (hoff : OffT (feet [pt c #[.string s, .int .i64 ((p : Int)), .slice v X.length cap] 75, own 77 4 (.slice v X.length cap) X.length (tokv X)])) :
  Calls Tryd.prog 71 #[.pointer (some ⟨c, 0, none⟩)] w fun e w' => ∃ v' cap', e = .returned (.int .i64 2) ∧ Mem w (feet [pt c #[.string s, .int .i64 ((p : Int)), .slice v X.length cap] 75, own 77 4 (.slice v X.length cap) X.length (tokv X)]) [pt c #[.string s, .int .i64 (((p + ltrs s p : Nat) : Int)), .slice v' (((X ++ [(⟨1, s.extract p (p + ltrs s p), 0, p⟩ : Tok)])).length) cap'] 75, own 77 4 (.slice v' (((X ++ [(⟨1, s.extract p (p + ltrs s p), 0, p⟩ : Tok)])).length) cap') (((X ++ [(⟨1, s.extract p (p + ltrs s p), 0, p⟩ : Tok)])).length) (tokv ((X ++ [(⟨1, s.extract p (p + ltrs s p), 0, p⟩ : Tok)])))] w' := by
 refine Calls.of_ends (vs := [.pointer (some ⟨c, 0, none⟩)]) Tryd.func71 rfl Tryd.ntmps71 rfl ?_
 intro a hA
 replace hA : St 66 [(0, _)] a := hA
 refine Ends.seq (Ends.region ?_)
 refine S.val hA (R.assign rfl) rfl ?_; clear hA a; intro a hA
 refine S.done ?_
 refine Ends.seq (Ends.region ?_)
 refine S.val hA (R.assign rfl) rfl ?_; clear hA a; intro a hA
 refine S.done ?_
 refine Ends.seq (Ends.seq ?_)
 refine Ends.drawn (Mem w (feet [pt c #[.string s, .int .i64 ((p : Int)), .slice v X.length cap] 75, own 77 4 (.slice v X.length cap) X.length (tokv X)]) [pt c #[.string s, .int .i64 ((p : Int)), .slice v X.length cap] 75, own 77 4 (.slice v X.length cap) X.length (tokv X)]) (.cons (0, true) (.cons (1, true) (.cons (2, true) (.cons (3, true) (.cons (4, true) (.cons (5, true) (.cons (6, true) (.cons (7, true) (.cons (8, true) (.cons (9, false) .nil)))))))))) 10 mixed (by kernel_rfl) (by kernel_rfl) (by kernel_rfl) hM.drew ?_
 replace hM := hM.drew
 refine D.valF hA rfl (fun _ => R.move rfl) rfl ?_; clear hA a; intro a hA
 refine D.valF hA rfl (fun _ => R.nilCheck rfl) rfl ?_; clear hA a; intro a hA
 refine D.valF hA rfl (fun _ => R.fieldAddr (q := 0) fi75_0 rfl rfl rfl) rfl ?_; clear hA a; intro a hA
 refine D.val hA rfl (by kernel_rfl) (fun _ hM => R.load sz9 rfl (hM.cell (k := 0) rfl rfl)) rfl ?_; clear hA a; intro a hA
 refine D.valF hA rfl (fun _ => R.move rfl) rfl ?_; clear hA a; intro a hA
 refine D.valF hA rfl (fun _ => R.nilCheck rfl) rfl ?_; clear hA a; intro a hA
 refine D.valF hA rfl (fun _ => R.fieldAddr (q := 1) fi75_1 rfl rfl rfl) rfl ?_; clear hA a; intro a hA
 refine D.val hA rfl (by kernel_rfl) (fun _ hM => R.load sz3 rfl (hM.cell (k := 0) rfl rfl)) rfl ?_; clear hA a; intro a hA
 refine D.valF hA rfl (fun _ => R.to (v := .string ((s.extract p s.size))) (R.sliceSL Tryd.underlying9 rfl rfl (by omega)) (by first | rfl | (congr 2; done) | (congr 2 <;> omega))) rfl ?_; clear hA a; intro a hA
 refine D.rangeS hA hM rfl Tryd.underlying9 rfl rfl ?_; clear hA hM a; intro b1 w1 hb2 hM
 refine ⟨(hM.drop 0), fun a hA => ?_⟩
 replace hM : Mem _ _ [itC b1 ((s.extract p s.size)) 0, pt c #[.string s, .int .i64 ((p : Int)), .slice v X.length cap] 75, own 77 4 (.slice v X.length cap) X.length (tokv X)] _ := hM
 refine D.done ?_
 replace hA : St 66 [(0, _), (3, _), (15, _)] a := hA.sub ((.cons rfl (.cons rfl (.cons rfl .nil))))
 refine Ends.block ?_
 have hes : (s.extract p s.size).size = s.size - p := size_ext (Nat.le_refl _)
 refine Ends.loop (σ := Nat) (fun q (a : Act) (wv : World) => St 66 [(0, .pointer (some ⟨c, 0, none⟩)), (3, .int .i64 ((q : Int))), (15, .pointer (some ⟨b1, 0, none⟩))] a ∧ Mem w (feet [pt c #[.string s, .int .i64 ((p : Int)), .slice v X.length cap] 75, own 77 4 (.slice v X.length cap) X.length (tokv X)]) [itC b1 ((s.extract p s.size)) q, pt c #[.string s, .int .i64 ((p : Int)), .slice v X.length cap] 75, own 77 4 (.slice v X.length cap) X.length (tokv X)] wv ∧ (p + q ≤ s.size) ∧ (∀ j, j < q → kb s (p + j) = 3)) (fun q => s.size - q) 0 ⟨hA.sub ((.cons rfl (.cons rfl (.cons rfl .nil)))), hM, (by omega), (fun j hj => absurd hj (Nat.not_lt_zero j))⟩ ?_
 clear hA hM a
 rintro q a w2 ⟨hA, hM, hq, hl⟩ hNext
 refine Ends.seq (Ends.region ?_)
 by_cases hp3 : q < ((s.extract p s.size)).size
 ·
  refine S.nextT (k := 0) hA hM rfl rfl hp3 rfl ?_; clear hA hM a; intro w3 hM a hA
  replace hM : Mem _ _ [itC b1 ((s.extract p s.size)) ((q + (Utf8.decode ((s.extract p s.size)) q).2)), pt c #[.string s, .int .i64 ((p : Int)), .slice v X.length cap] 75, own 77 4 (.slice v X.length cap) X.length (tokv X)] _ := hM
  refine S.val hA (R.extract (v := .bool true) rfl rfl) rfl ?_; clear hA a; intro a hA
  refine S.done ?_
  refine Ends.seq ?_
  refine Ends.condT hA rfl ?_
  refine Ends.skip (Ends.block (Ends.seq (Ends.region ?_)))
  refine S.val hA (R.extract (v := .int .i32 (((Utf8.decode ((s.extract p s.size)) q).1 : Int))) rfl rfl) rfl ?_; clear hA a; intro a hA
  refine S.val hA (R.assign rfl) rfl ?_; clear hA a; intro a hA
  refine S.done ?_
  refine Ends.seq (Ends.seq (Ends.region ?_))
  refine S.val hA (R.move rfl) rfl ?_; clear hA a; intro a hA
  refine S.call hA (R.callF Tryd.func86 rfl rfl rfl) rfl (kind_any (((Utf8.decode ((s.extract p s.size)) q).1 : Int)) _) ?_; clear hA a
  rintro e w4 ⟨rfl, hb⟩
  replace hM := hM.callB hb; clear hb
  refine ⟨.int .i64 (kindI (((Utf8.decode ((s.extract p s.size)) q).1 : Int))), rfl, fun a hA => ?_⟩
  refine S.val hA (R.neq rfl rfl) rfl ?_; clear hA a; intro a hA
  refine S.done ?_
  replace hA : St 66 [(0, _), (3, _), (15, _), (21, _)] a := hA.sub ((.cons rfl (.cons rfl (.cons rfl (.cons rfl .nil)))))
  refine Ends.ite hA rfl (fun hc4 => ?_) (fun hc4 => ?_)
  ·
   refine Ends.exit rfl ?_
   refine Ends.seq (Ends.seq ?_)
   have hq4 : kb s (p + q) ≠ 3 := by have h9 := hc4; rw [(dec_kb hp3).1, kb_ext (Nat.le_of_lt hp)] at h9; exact h9
   have hlq : ltrs s p = q := ltrs_uniq hl hq4
   refine Ends.region ?_
   refine S.val hA (R.move rfl) rfl ?_; clear hA a; intro a hA
   refine S.val hA (R.ff (R.gtr rfl rfl) (by omega)) rfl ?_; clear hA a; intro a hA
   refine S.done ?_
   refine Ends.condF hA rfl ?_
   refine Ends.skip (Ends.seq ?_)
   refine Ends.drawn (Mem w (feet [pt c #[.string s, .int .i64 ((p : Int)), .slice v X.length cap] 75, own 77 4 (.slice v X.length cap) X.length (tokv X)]) [pt c #[.string s, .int .i64 ((p : Int)), .slice v X.length cap] 75]) (.cons (0, true) (.cons (1, true) (.cons (2, true) (.cons (3, true) (.cons (4, true) (.cons (5, true) (.cons (6, true) (.cons (7, true) (.cons (8, true) (.cons (9, true) (.cons (10, true) (.cons (11, true) (.cons (12, true) (.cons (13, true) (.cons (14, true) (.cons (15, true) (.cons (16, true) (.cons (17, true) (.cons (18, true) (.cons (19, true) (.cons (20, true) (.cons (21, true) (.cons (22, true) (.cons (23, true) (.cons (24, true) (.cons (25, false) (.cons (26, false) (.cons (27, true) (.cons (28, true) (.cons (29, false) .nil)))))))))))))))))))))))))))))) 29 mixed (by kernel_rfl) (by kernel_rfl) (by kernel_rfl) ((hM.drop 2).drop 0).drew ?_
   replace hM := hM.drew
   refine D.valF hA rfl (fun _ => R.move rfl) rfl ?_; clear hA a; intro a hA
   refine D.valF hA rfl (fun _ => R.move rfl) rfl ?_; clear hA a; intro a hA
   refine D.valF hA rfl (fun _ => R.nilCheck rfl) rfl ?_; clear hA a; intro a hA
   refine D.valF hA rfl (fun _ => R.fieldAddr (q := 2) fi75_2 rfl rfl rfl) rfl ?_; clear hA a; intro a hA
   refine D.val hA rfl (by kernel_rfl) (fun _ hM => R.load sz48 rfl (hM.cell (k := 0) rfl rfl)) rfl ?_; clear hA a; intro a hA
   refine D.valF hA rfl (fun _ => R.move rfl) rfl ?_; clear hA a; intro a hA
   refine D.valF hA rfl (fun _ => R.nilCheck rfl) rfl ?_; clear hA a; intro a hA
   refine D.valF hA rfl (fun _ => R.fieldAddr (q := 0) fi75_0 rfl rfl rfl) rfl ?_; clear hA a; intro a hA
   refine D.val hA rfl (by kernel_rfl) (fun _ hM => R.load sz9 rfl (hM.cell (k := 0) rfl rfl)) rfl ?_; clear hA a; intro a hA
   refine D.valF hA rfl (fun _ => R.move rfl) rfl ?_; clear hA a; intro a hA
   refine D.valF hA rfl (fun _ => R.nilCheck rfl) rfl ?_; clear hA a; intro a hA
   refine D.valF hA rfl (fun _ => R.fieldAddr (q := 1) fi75_1 rfl rfl rfl) rfl ?_; clear hA a; intro a hA
   refine D.val hA rfl (by kernel_rfl) (fun _ hM => R.load sz3 rfl (hM.cell (k := 0) rfl rfl)) rfl ?_; clear hA a; intro a hA
   refine D.valF hA rfl (fun _ => R.move rfl) rfl ?_; clear hA a; intro a hA
   refine D.valF hA rfl (fun _ => R.nilCheck rfl) rfl ?_; clear hA a; intro a hA
   refine D.valF hA rfl (fun _ => R.fieldAddr (q := 1) fi75_1 rfl rfl rfl) rfl ?_; clear hA a; intro a hA
   refine D.val hA rfl (by kernel_rfl) (fun _ hM => R.load sz3 rfl (hM.cell (k := 0) rfl rfl)) rfl ?_; clear hA a; intro a hA
   refine D.valF hA rfl (fun _ => R.move rfl) rfl ?_; clear hA a; intro a hA
   refine D.valF hA rfl (fun _ => R.addI rfl rfl (r := ((p + q : Nat) : Int)) (by omega) (by omega)) rfl ?_; clear hA a; intro a hA
   refine D.valF hA rfl (fun _ => R.to (v := .string ((s.extract p (p + q)))) (R.sliceSS Tryd.underlying9 rfl rfl rfl (by omega)) (by first | rfl | (congr 2; done) | (congr 2 <;> omega))) rfl ?_; clear hA a; intro a hA
   refine D.valF hA rfl (fun _ => R.move rfl) rfl ?_; clear hA a; intro a hA
   refine D.valF hA rfl (fun _ => R.nilCheck rfl) rfl ?_; clear hA a; intro a hA
   refine D.valF hA rfl (fun _ => R.fieldAddr (q := 1) fi75_1 rfl rfl rfl) rfl ?_; clear hA a; intro a hA
   refine D.val hA rfl (by kernel_rfl) (fun _ hM => R.load sz3 rfl (hM.cell (k := 0) rfl rfl)) rfl ?_; clear hA a; intro a hA
   refine D.valF hA rfl (fun _ => R.build (cells := #[.int .i64 1, .string ((s.extract p (p + q))), .int .i64 0, .int .i64 ((p : Int))]) rfl (by kernel_rfl)) rfl ?_; clear hA a; intro a hA
   refine D.buildSl (cells := #[.int .i64 1, .string ((s.extract p (p + q))), .int .i64 0, .int .i64 ((p : Int))]) hA hM rfl Tryd.underlying48 info77 rfl rfl rfl rfl (by kernel_rfl) rfl ?_; clear hA hM a; intro b5 w5 hb6 hM; refine ⟨(fun hM => ((hM.drop 2).drop 0)) hM.tail, fun a hA => ?_⟩
   replace hM : Mem _ _ [pt b5 #[.int .i64 1, .string ((s.extract p (p + q))), .int .i64 0, .int .i64 ((p : Int))] 77, itC b1 ((s.extract p s.size)) ((q + (Utf8.decode ((s.extract p s.size)) q).2)), pt c #[.string s, .int .i64 ((p : Int)), .slice v X.length cap] 75, own 77 4 (.slice v X.length cap) X.length (tokv X)] _ := hM
   refine D.append (k := 3) (k2 := 0) hA hM rfl rfl rfl Tryd.underlying48 info77 rfl rfl rfl rfl rfl rfl rfl rfl rfl (by first | omega | (show (_ + 1) * 40 ≤ 140737488355328; omega) | (unfold maxLen; omega)) (by first | omega | (show (_ + 1) * 40 ≤ 140737488355328; omega) | (unfold maxLen; omega)) rfl ?_; clear hA hM a; intro a7 c8 w6 hM
   replace hM : Mem _ _ [pt b5 #[.int .i64 1, .string ((s.extract p (p + q))), .int .i64 0, .int .i64 ((p : Int))] 77, itC b1 ((s.extract p s.size)) ((q + (Utf8.decode ((s.extract p s.size)) q).2)), pt c #[.string s, .int .i64 ((p : Int)), .slice v X.length cap] 75, own 77 4 (.slice a7 (X.length + 1) c8) (X.length + 1) (tokv X ++ [.int .i64 1, .string ((s.extract p (p + q))), .int .i64 0, .int .i64 ((p : Int))])] _ := hM
   have hl9 : X.length + 1 = (X ++ [(⟨1, (s.extract p (p + q)), 0, (p : Int)⟩ : Tok)]).length := by simp
   rw [hl9, show tokv X ++ [.int .i64 1, .string ((s.extract p (p + q))), .int .i64 0, .int .i64 ((p : Int))] = tokv (X ++ [(⟨1, (s.extract p (p + q)), 0, (p : Int)⟩ : Tok)]) from tokv_app X (⟨1, (s.extract p (p + q)), 0, (p : Int)⟩ : Tok)] at hM
   replace hM := hM.drop 0
   replace hM : Mem _ _ [itC b1 ((s.extract p s.size)) ((q + (Utf8.decode ((s.extract p s.size)) q).2)), pt c #[.string s, .int .i64 ((p : Int)), .slice v X.length cap] 75, own 77 4 (.slice a7 (((X ++ [(⟨1, (s.extract p (p + q)), 0, (p : Int)⟩ : Tok)])).length) c8) (((X ++ [(⟨1, (s.extract p (p + q)), 0, (p : Int)⟩ : Tok)])).length) (tokv ((X ++ [(⟨1, (s.extract p (p + q)), 0, (p : Int)⟩ : Tok)])))] _ := hM
   refine ⟨((hM.drop 2).drop 0), fun a hA => ?_⟩; rw [hl9] at hA; clear hl9
   refine D.valF hA rfl (fun _ => R.nilCheck rfl) rfl ?_; clear hA a; intro a hA
   refine D.valF hA rfl (fun _ => R.fieldAddr (q := 2) fi75_2 rfl rfl rfl) rfl ?_; clear hA a; intro a hA
   refine D.store (k := 1) hA hM rfl sz48 rfl rfl rfl rfl rfl ?_; clear hM
   intro w7 hM; refine ⟨fun _ hne => absurd rfl hne, ?_⟩
   replace hM : Mem _ _ [itC b1 ((s.extract p s.size)) ((q + (Utf8.decode ((s.extract p s.size)) q).2)), pt c #[.string s, .int .i64 ((p : Int)), .slice a7 (((X ++ [(⟨1, (s.extract p (p + q)), 0, (p : Int)⟩ : Tok)])).length) c8] 75, own 77 4 (.slice a7 (((X ++ [(⟨1, (s.extract p (p + q)), 0, (p : Int)⟩ : Tok)])).length) c8) (((X ++ [(⟨1, (s.extract p (p + q)), 0, (p : Int)⟩ : Tok)])).length) (tokv ((X ++ [(⟨1, (s.extract p (p + q)), 0, (p : Int)⟩ : Tok)])))] _ := hM
   refine D.done ?_
   replace hA : St 66 [(0, _), (3, _)] a := hA.sub ((.cons rfl (.cons rfl .nil)))
   refine Ends.seq (Ends.region ?_)
   refine S.val hA (R.move rfl) rfl ?_; clear hA a; intro a hA
   refine S.val hA (R.nilCheck rfl) rfl ?_; clear hA a; intro a hA
   refine S.val hA (R.fieldAddr (q := 1) fi75_1 rfl rfl rfl) rfl ?_; clear hA a; intro a hA
   refine S.val hA (R.load sz3 rfl (hM.cell (k := 1) rfl rfl)) rfl ?_; clear hA a; intro a hA
   refine S.val hA (R.move rfl) rfl ?_; clear hA a; intro a hA
   refine S.val hA (R.addI rfl rfl (r := ((p + q : Nat) : Int)) (by omega) (by omega)) rfl ?_; clear hA a; intro a hA
   refine S.val hA (R.nilCheck rfl) rfl ?_; clear hA a; intro a hA
   refine S.val hA (R.fieldAddr (q := 1) fi75_1 rfl rfl rfl) rfl ?_; clear hA a; intro a hA
   refine S.store (k := 1) hA hM sz3 rfl rfl rfl rfl rfl ?_; clear hM
   intro w8 hM
   replace hM : Mem _ _ [itC b1 ((s.extract p s.size)) ((q + (Utf8.decode ((s.extract p s.size)) q).2)), pt c #[.string s, .int .i64 (((p + q : Nat) : Int)), .slice a7 (((X ++ [(⟨1, (s.extract p (p + q)), 0, (p : Int)⟩ : Tok)])).length) c8] 75, own 77 4 (.slice a7 (((X ++ [(⟨1, (s.extract p (p + q)), 0, (p : Int)⟩ : Tok)])).length) c8) (((X ++ [(⟨1, (s.extract p (p + q)), 0, (p : Int)⟩ : Tok)])).length) (tokv ((X ++ [(⟨1, (s.extract p (p + q)), 0, (p : Int)⟩ : Tok)])))] _ := hM
   refine S.done ?_
   replace hA : St 66 [(0, _)] a := hA.sub ((.cons rfl .nil))
   refine Ends.seq (Ends.seq (Ends.region ?_))
   refine S.val hA (R.move rfl) rfl ?_; clear hA a; intro a hA
   refine S.call hA (R.callF Tryd.func69 rfl rfl rfl) rfl (lkind s (p + q) c (.slice a7 (((X ++ [(⟨1, (s.extract p (p + q)), 0, (p : Int)⟩ : Tok)])).length) c8) _ (hM.block (k := 1) rfl) (htab.mem hM hoff)) ?_; clear hA a
   rintro e w9 ⟨rfl, hb⟩
   replace hM := hM.callB hb; clear hb
   refine ⟨.int .i64 (kb s (p + q)), rfl, fun a hA => ?_⟩
   refine S.val hA (R.tt (R.eql rfl rfl) (by rw [← hlq]; exact h2)) rfl ?_; clear hA a; intro a hA
   refine S.done ?_
   refine Ends.condT hA rfl ?_
   refine Ends.seq (Ends.region ?_)
   refine S.val hA (R.assign rfl) rfl ?_; clear hA a; intro a hA
   refine S.done ?_
   replace hA : St 66 [(2, _)] a := hA.sub ((.cons rfl .nil))
   refine Ends.ret1 Tryd.func71 Tryd.results71 hA rfl ?_
   replace hM := hM.front (k := 2) rfl
   replace hM := hM.front (k := 2) rfl
   replace hM : Mem _ _ [pt c #[.string s, .int .i64 (((p + q : Nat) : Int)), .slice a7 (((X ++ [(⟨1, (s.extract p (p + q)), 0, (p : Int)⟩ : Tok)])).length) c8] 75, own 77 4 (.slice a7 (((X ++ [(⟨1, (s.extract p (p + q)), 0, (p : Int)⟩ : Tok)])).length) c8) (((X ++ [(⟨1, (s.extract p (p + q)), 0, (p : Int)⟩ : Tok)])).length) (tokv ((X ++ [(⟨1, (s.extract p (p + q)), 0, (p : Int)⟩ : Tok)]))), itC b1 ((s.extract p s.size)) ((q + (Utf8.decode ((s.extract p s.size)) q).2))] _ := hM
   replace hM := hM.firstN 2
   replace hM : Mem _ _ [pt c #[.string s, .int .i64 (((p + q : Nat) : Int)), .slice a7 (((X ++ [(⟨1, (s.extract p (p + q)), 0, (p : Int)⟩ : Tok)])).length) c8] 75, own 77 4 (.slice a7 (((X ++ [(⟨1, (s.extract p (p + q)), 0, (p : Int)⟩ : Tok)])).length) c8) (((X ++ [(⟨1, (s.extract p (p + q)), 0, (p : Int)⟩ : Tok)])).length) (tokv ((X ++ [(⟨1, (s.extract p (p + q)), 0, (p : Int)⟩ : Tok)])))] _ := hM
   rw [hlq]
   exact ⟨a7, c8, rfl, hM⟩
  ·
   refine Ends.skip (Ends.region ?_)
   refine S.val hA (R.move rfl) rfl ?_; clear hA a; intro a hA
   refine S.val hA (R.addI rfl rfl (r := ((q : Int)) + 1) rfl (by omega)) rfl ?_; clear hA a; intro a hA
   refine S.val hA (R.assign rfl) rfl ?_; clear hA a; intro a hA
   refine S.done ?_
   refine Ends.inBlock ?_
   have hq3 := Classical.byContradiction hc4
   have hd := dec_kb hp3
   rw [hd.1, kb_ext (Nat.le_of_lt hp)] at hq3
   rw [hd.2 (by rw [kb_ext (Nat.le_of_lt hp), hq3]; decide)] at hM
   exact hNext ((q + 1)) _ _ ((by show s.size - (q + 1) < s.size - q; omega)) ⟨hA.sub ((.cons rfl (.cons rfl (.cons rfl .nil)))), hM, (by omega), (fun j hj => by rcases Nat.lt_or_ge j q with g | g; exact hl j g; have e : j = q := (by omega); exact e ▸ hq3)⟩
 ·
  refine S.val hA (R.nextF (k := 0) hM rfl rfl hp3) rfl ?_; clear hA a; intro a hA
  refine S.val hA (R.extract (v := .bool false) rfl rfl) rfl ?_; clear hA a; intro a hA
  refine S.done ?_
  refine Ends.seq ?_
  refine Ends.condF hA rfl ?_
  refine Ends.exit rfl ?_
  refine Ends.seq (Ends.seq ?_)
  have hq4 : kb s (p + q) ≠ 3 := by rw [kb_out (by omega)]; decide
  have hlq : ltrs s p = q := ltrs_uniq hl hq4
  refine Ends.region ?_
  refine S.val hA (R.move rfl) rfl ?_; clear hA a; intro a hA
  refine S.val hA (R.ff (R.gtr rfl rfl) (by omega)) rfl ?_; clear hA a; intro a hA
  refine S.done ?_
  replace hA : St 66 [(0, _), (3, _), (25, _)] a := hA.sub ((.cons rfl (.cons rfl (.cons rfl .nil))))
  refine Ends.condF hA rfl ?_
  refine Ends.skip (Ends.seq ?_)
  refine Ends.drawn (Mem w (feet [pt c #[.string s, .int .i64 ((p : Int)), .slice v X.length cap] 75, own 77 4 (.slice v X.length cap) X.length (tokv X)]) [pt c #[.string s, .int .i64 ((p : Int)), .slice v X.length cap] 75]) (.cons (0, true) (.cons (1, true) (.cons (2, true) (.cons (3, true) (.cons (4, true) (.cons (5, true) (.cons (6, true) (.cons (7, true) (.cons (8, true) (.cons (9, true) (.cons (10, true) (.cons (11, true) (.cons (12, true) (.cons (13, true) (.cons (14, true) (.cons (15, true) (.cons (16, true) (.cons (17, true) (.cons (18, true) (.cons (19, true) (.cons (20, true) (.cons (21, true) (.cons (22, true) (.cons (23, true) (.cons (24, true) (.cons (25, false) (.cons (26, false) (.cons (27, true) (.cons (28, true) (.cons (29, false) .nil)))))))))))))))))))))))))))))) 29 mixed (by kernel_rfl) (by kernel_rfl) (by kernel_rfl) ((hM.drop 2).drop 0).drew ?_
  replace hM := hM.drew
  refine D.valF hA rfl (fun _ => R.move rfl) rfl ?_; clear hA a; intro a hA
  refine D.valF hA rfl (fun _ => R.move rfl) rfl ?_; clear hA a; intro a hA
  refine D.valF hA rfl (fun _ => R.nilCheck rfl) rfl ?_; clear hA a; intro a hA
  refine D.valF hA rfl (fun _ => R.fieldAddr (q := 2) fi75_2 rfl rfl rfl) rfl ?_; clear hA a; intro a hA
  refine D.val hA rfl (by kernel_rfl) (fun _ hM => R.load sz48 rfl (hM.cell (k := 0) rfl rfl)) rfl ?_; clear hA a; intro a hA
  refine D.valF hA rfl (fun _ => R.move rfl) rfl ?_; clear hA a; intro a hA
  refine D.valF hA rfl (fun _ => R.nilCheck rfl) rfl ?_; clear hA a; intro a hA
  refine D.valF hA rfl (fun _ => R.fieldAddr (q := 0) fi75_0 rfl rfl rfl) rfl ?_; clear hA a; intro a hA
  refine D.val hA rfl (by kernel_rfl) (fun _ hM => R.load sz9 rfl (hM.cell (k := 0) rfl rfl)) rfl ?_; clear hA a; intro a hA
  refine D.valF hA rfl (fun _ => R.move rfl) rfl ?_; clear hA a; intro a hA
  refine D.valF hA rfl (fun _ => R.nilCheck rfl) rfl ?_; clear hA a; intro a hA
  refine D.valF hA rfl (fun _ => R.fieldAddr (q := 1) fi75_1 rfl rfl rfl) rfl ?_; clear hA a; intro a hA
  refine D.val hA rfl (by kernel_rfl) (fun _ hM => R.load sz3 rfl (hM.cell (k := 0) rfl rfl)) rfl ?_; clear hA a; intro a hA
  refine D.valF hA rfl (fun _ => R.move rfl) rfl ?_; clear hA a; intro a hA
  refine D.valF hA rfl (fun _ => R.nilCheck rfl) rfl ?_; clear hA a; intro a hA
  refine D.valF hA rfl (fun _ => R.fieldAddr (q := 1) fi75_1 rfl rfl rfl) rfl ?_; clear hA a; intro a hA
  refine D.val hA rfl (by kernel_rfl) (fun _ hM => R.load sz3 rfl (hM.cell (k := 0) rfl rfl)) rfl ?_; clear hA a; intro a hA
  refine D.valF hA rfl (fun _ => R.move rfl) rfl ?_; clear hA a; intro a hA
  refine D.valF hA rfl (fun _ => R.addI rfl rfl (r := ((p + q : Nat) : Int)) (by omega) (by omega)) rfl ?_; clear hA a; intro a hA
  refine D.valF hA rfl (fun _ => R.to (v := .string ((s.extract p (p + q)))) (R.sliceSS Tryd.underlying9 rfl rfl rfl (by omega)) (by first | rfl | (congr 2; done) | (congr 2 <;> omega))) rfl ?_; clear hA a; intro a hA
  refine D.valF hA rfl (fun _ => R.move rfl) rfl ?_; clear hA a; intro a hA
  refine D.valF hA rfl (fun _ => R.nilCheck rfl) rfl ?_; clear hA a; intro a hA
  refine D.valF hA rfl (fun _ => R.fieldAddr (q := 1) fi75_1 rfl rfl rfl) rfl ?_; clear hA a; intro a hA
  refine D.val hA rfl (by kernel_rfl) (fun _ hM => R.load sz3 rfl (hM.cell (k := 0) rfl rfl)) rfl ?_; clear hA a; intro a hA
  refine D.valF hA rfl (fun _ => R.build (cells := #[.int .i64 1, .string ((s.extract p (p + q))), .int .i64 0, .int .i64 ((p : Int))]) rfl (by kernel_rfl)) rfl ?_; clear hA a; intro a hA
  refine D.buildSl (cells := #[.int .i64 1, .string ((s.extract p (p + q))), .int .i64 0, .int .i64 ((p : Int))]) hA hM rfl Tryd.underlying48 info77 rfl rfl rfl rfl (by kernel_rfl) rfl ?_; clear hA hM a; intro b10 w10 hb11 hM; refine ⟨(fun hM => ((hM.drop 2).drop 0)) hM.tail, fun a hA => ?_⟩
  replace hM : Mem _ _ [pt b10 #[.int .i64 1, .string ((s.extract p (p + q))), .int .i64 0, .int .i64 ((p : Int))] 77, itC b1 ((s.extract p s.size)) q, pt c #[.string s, .int .i64 ((p : Int)), .slice v X.length cap] 75, own 77 4 (.slice v X.length cap) X.length (tokv X)] _ := hM
  refine D.append (k := 3) (k2 := 0) hA hM rfl rfl rfl Tryd.underlying48 info77 rfl rfl rfl rfl rfl rfl rfl rfl rfl (by first | omega | (show (_ + 1) * 40 ≤ 140737488355328; omega) | (unfold maxLen; omega)) (by first | omega | (show (_ + 1) * 40 ≤ 140737488355328; omega) | (unfold maxLen; omega)) rfl ?_; clear hA hM a; intro a12 c13 w11 hM
  replace hM : Mem _ _ [pt b10 #[.int .i64 1, .string ((s.extract p (p + q))), .int .i64 0, .int .i64 ((p : Int))] 77, itC b1 ((s.extract p s.size)) q, pt c #[.string s, .int .i64 ((p : Int)), .slice v X.length cap] 75, own 77 4 (.slice a12 (X.length + 1) c13) (X.length + 1) (tokv X ++ [.int .i64 1, .string ((s.extract p (p + q))), .int .i64 0, .int .i64 ((p : Int))])] _ := hM
  have hl14 : X.length + 1 = (X ++ [(⟨1, (s.extract p (p + q)), 0, (p : Int)⟩ : Tok)]).length := by simp
  rw [hl14, show tokv X ++ [.int .i64 1, .string ((s.extract p (p + q))), .int .i64 0, .int .i64 ((p : Int))] = tokv (X ++ [(⟨1, (s.extract p (p + q)), 0, (p : Int)⟩ : Tok)]) from tokv_app X (⟨1, (s.extract p (p + q)), 0, (p : Int)⟩ : Tok)] at hM
  replace hM := hM.drop 0
  replace hM : Mem _ _ [itC b1 ((s.extract p s.size)) q, pt c #[.string s, .int .i64 ((p : Int)), .slice v X.length cap] 75, own 77 4 (.slice a12 (((X ++ [(⟨1, (s.extract p (p + q)), 0, (p : Int)⟩ : Tok)])).length) c13) (((X ++ [(⟨1, (s.extract p (p + q)), 0, (p : Int)⟩ : Tok)])).length) (tokv ((X ++ [(⟨1, (s.extract p (p + q)), 0, (p : Int)⟩ : Tok)])))] _ := hM
  refine ⟨((hM.drop 2).drop 0), fun a hA => ?_⟩; rw [hl14] at hA; clear hl14
  refine D.valF hA rfl (fun _ => R.nilCheck rfl) rfl ?_; clear hA a; intro a hA
  refine D.valF hA rfl (fun _ => R.fieldAddr (q := 2) fi75_2 rfl rfl rfl) rfl ?_; clear hA a; intro a hA
  refine D.store (k := 1) hA hM rfl sz48 rfl rfl rfl rfl rfl ?_; clear hM
  intro w12 hM; refine ⟨fun _ hne => absurd rfl hne, ?_⟩
  replace hM : Mem _ _ [itC b1 ((s.extract p s.size)) q, pt c #[.string s, .int .i64 ((p : Int)), .slice a12 (((X ++ [(⟨1, (s.extract p (p + q)), 0, (p : Int)⟩ : Tok)])).length) c13] 75, own 77 4 (.slice a12 (((X ++ [(⟨1, (s.extract p (p + q)), 0, (p : Int)⟩ : Tok)])).length) c13) (((X ++ [(⟨1, (s.extract p (p + q)), 0, (p : Int)⟩ : Tok)])).length) (tokv ((X ++ [(⟨1, (s.extract p (p + q)), 0, (p : Int)⟩ : Tok)])))] _ := hM
  refine D.done ?_
  replace hA : St 66 [(0, _), (3, _)] a := hA.sub ((.cons rfl (.cons rfl .nil)))
  refine Ends.seq (Ends.region ?_)
  refine S.val hA (R.move rfl) rfl ?_; clear hA a; intro a hA
  refine S.val hA (R.nilCheck rfl) rfl ?_; clear hA a; intro a hA
  refine S.val hA (R.fieldAddr (q := 1) fi75_1 rfl rfl rfl) rfl ?_; clear hA a; intro a hA
  refine S.val hA (R.load sz3 rfl (hM.cell (k := 1) rfl rfl)) rfl ?_; clear hA a; intro a hA
  refine S.val hA (R.move rfl) rfl ?_; clear hA a; intro a hA
  refine S.val hA (R.addI rfl rfl (r := ((p + q : Nat) : Int)) (by omega) (by omega)) rfl ?_; clear hA a; intro a hA
  refine S.val hA (R.nilCheck rfl) rfl ?_; clear hA a; intro a hA
  refine S.val hA (R.fieldAddr (q := 1) fi75_1 rfl rfl rfl) rfl ?_; clear hA a; intro a hA
  refine S.store (k := 1) hA hM sz3 rfl rfl rfl rfl rfl ?_; clear hM
  intro w13 hM
  replace hM : Mem _ _ [itC b1 ((s.extract p s.size)) q, pt c #[.string s, .int .i64 (((p + q : Nat) : Int)), .slice a12 (((X ++ [(⟨1, (s.extract p (p + q)), 0, (p : Int)⟩ : Tok)])).length) c13] 75, own 77 4 (.slice a12 (((X ++ [(⟨1, (s.extract p (p + q)), 0, (p : Int)⟩ : Tok)])).length) c13) (((X ++ [(⟨1, (s.extract p (p + q)), 0, (p : Int)⟩ : Tok)])).length) (tokv ((X ++ [(⟨1, (s.extract p (p + q)), 0, (p : Int)⟩ : Tok)])))] _ := hM
  refine S.done ?_
  replace hA : St 66 [(0, _)] a := hA.sub ((.cons rfl .nil))
  refine Ends.seq (Ends.seq (Ends.region ?_))
  refine S.val hA (R.move rfl) rfl ?_; clear hA a; intro a hA
  refine S.call hA (R.callF Tryd.func69 rfl rfl rfl) rfl (lkind s (p + q) c (.slice a12 (((X ++ [(⟨1, (s.extract p (p + q)), 0, (p : Int)⟩ : Tok)])).length) c13) _ (hM.block (k := 1) rfl) (htab.mem hM hoff)) ?_; clear hA a
  rintro e w14 ⟨rfl, hb⟩
  replace hM := hM.callB hb; clear hb
  refine ⟨.int .i64 (kb s (p + q)), rfl, fun a hA => ?_⟩
  refine S.val hA (R.tt (R.eql rfl rfl) (by rw [← hlq]; exact h2)) rfl ?_; clear hA a; intro a hA
  refine S.done ?_
  refine Ends.condT hA rfl ?_
  refine Ends.seq (Ends.region ?_)
  refine S.val hA (R.assign rfl) rfl ?_; clear hA a; intro a hA
  refine S.done ?_
  replace hA : St 66 [(2, _)] a := hA.sub ((.cons rfl .nil))
  refine Ends.ret1 Tryd.func71 Tryd.results71 hA rfl ?_
  replace hM := hM.front (k := 2) rfl
  replace hM := hM.front (k := 2) rfl
  replace hM : Mem _ _ [pt c #[.string s, .int .i64 (((p + q : Nat) : Int)), .slice a12 (((X ++ [(⟨1, (s.extract p (p + q)), 0, (p : Int)⟩ : Tok)])).length) c13] 75, own 77 4 (.slice a12 (((X ++ [(⟨1, (s.extract p (p + q)), 0, (p : Int)⟩ : Tok)])).length) c13) (((X ++ [(⟨1, (s.extract p (p + q)), 0, (p : Int)⟩ : Tok)])).length) (tokv ((X ++ [(⟨1, (s.extract p (p + q)), 0, (p : Int)⟩ : Tok)]))), itC b1 ((s.extract p s.size)) q] _ := hM
  replace hM := hM.firstN 2
  replace hM : Mem _ _ [pt c #[.string s, .int .i64 (((p + q : Nat) : Int)), .slice a12 (((X ++ [(⟨1, (s.extract p (p + q)), 0, (p : Int)⟩ : Tok)])).length) c13] 75, own 77 4 (.slice a12 (((X ++ [(⟨1, (s.extract p (p + q)), 0, (p : Int)⟩ : Tok)])).length) c13) (((X ++ [(⟨1, (s.extract p (p + q)), 0, (p : Int)⟩ : Tok)])).length) (tokv ((X ++ [(⟨1, (s.extract p (p + q)), 0, (p : Int)⟩ : Tok)])))] _ := hM
  rw [hlq]
  exact ⟨a12, c13, rfl, hM⟩
set_option maxRecDepth 100000 in
set_option maxHeartbeats 400000 in
theorem lword_o (s : ByteArray) (p c : Nat) (v : Option Addr) (cap : Nat) (X : List Tok) (hp : p < s.size) (hX : X.length ≤ 1000000) (hsz : s.size ≤ 1000000) (h : ¬ 16 < ltrs s p) (h2 : kb s (p + ltrs s p) ≠ 2) (w : World) (hM : Mem w (feet [pt c #[.string s, .int .i64 ((p : Int)), .slice v X.length cap] 75, own 77 4 (.slice v X.length cap) X.length (tokv X)]) [pt c #[.string s, .int .i64 ((p : Int)), .slice v X.length cap] 75, own 77 4 (.slice v X.length cap) X.length (tokv X)] w) (htab : U8T w) (hoff : OffT (feet [pt c #[.string s, .int .i64 ((p : Int)), .slice v X.length cap] 75, own 77 4 (.slice v X.length cap) X.length (tokv X)])) :
  Calls Tryd.prog 71 #[.pointer (some ⟨c, 0, none⟩)] w fun e w' => ∃ v' cap', e = .returned (.int .i64 0) ∧ Mem w (feet [pt c #[.string s, .int .i64 ((p : Int)), .slice v X.length cap] 75, own 77 4 (.slice v X.length cap) X.length (tokv X)]) [pt c #[.string s, .int .i64 (((p + ltrs s p : Nat) : Int)), .slice v' (((X ++ [(⟨1, s.extract p (p + ltrs s p), 0, p⟩ : Tok)])).length) cap'] 75, own 77 4 (.slice v' (((X ++ [(⟨1, s.extract p (p + ltrs s p), 0, p⟩ : Tok)])).length) cap') (((X ++ [(⟨1, s.extract p (p + ltrs s p), 0, p⟩ : Tok)])).length) (tokv ((X ++ [(⟨1, s.extract p (p + ltrs s p), 0, p⟩ : Tok)])))] w' := by
 refine Calls.of_ends (vs := [.pointer (some ⟨c, 0, none⟩)]) Tryd.func71 rfl Tryd.ntmps71 rfl ?_
 intro a hA
 replace hA : St 66 [(0, _)] a := hA
 refine Ends.seq (Ends.region ?_)
 refine S.val hA (R.assign rfl) rfl ?_; clear hA a; intro a hA
 refine S.done ?_
 refine Ends.seq (Ends.region ?_)
 refine S.val hA (R.assign rfl) rfl ?_; clear hA a; intro a hA
 refine S.done ?_
 refine Ends.seq (Ends.seq ?_)
 refine Ends.drawn (Mem w (feet [pt c #[.string s, .int .i64 ((p : Int)), .slice v X.length cap] 75, own 77 4 (.slice v X.length cap) X.length (tokv X)]) [pt c #[.string s, .int .i64 ((p : Int)), .slice v X.length cap] 75, own 77 4 (.slice v X.length cap) X.length (tokv X)]) (.cons (0, true) (.cons (1, true) (.cons (2, true) (.cons (3, true) (.cons (4, true) (.cons (5, true) (.cons (6, true) (.cons (7, true) (.cons (8, true) (.cons (9, false) .nil)))))))))) 10 mixed (by kernel_rfl) (by kernel_rfl) (by kernel_rfl) hM.drew ?_
 replace hM := hM.drew
 refine D.valF hA rfl (fun _ => R.move rfl) rfl ?_; clear hA a; intro a hA
 refine D.valF hA rfl (fun _ => R.nilCheck rfl) rfl ?_; clear hA a; intro a hA
 refine D.valF hA rfl (fun _ => R.fieldAddr (q := 0) fi75_0 rfl rfl rfl) rfl ?_; clear hA a; intro a hA
 refine D.val hA rfl (by kernel_rfl) (fun _ hM => R.load sz9 rfl (hM.cell (k := 0) rfl rfl)) rfl ?_; clear hA a; intro a hA
 refine D.valF hA rfl (fun _ => R.move rfl) rfl ?_; clear hA a; intro a hA
 refine D.valF hA rfl (fun _ => R.nilCheck rfl) rfl ?_; clear hA a; intro a hA
 refine D.valF hA rfl (fun _ => R.fieldAddr (q := 1) fi75_1 rfl rfl rfl) rfl ?_; clear hA a; intro a hA
 refine D.val hA rfl (by kernel_rfl) (fun _ hM => R.load sz3 rfl (hM.cell (k := 0) rfl rfl)) rfl ?_; clear hA a; intro a hA
 refine D.valF hA rfl (fun _ => R.to (v := .string ((s.extract p s.size))) (R.sliceSL Tryd.underlying9 rfl rfl (by omega)) (by first | rfl | (congr 2; done) | (congr 2 <;> omega))) rfl ?_; clear hA a; intro a hA
 refine D.rangeS hA hM rfl Tryd.underlying9 rfl rfl ?_; clear hA hM a; intro b1 w1 hb2 hM
 refine ⟨(hM.drop 0), fun a hA => ?_⟩
 replace hM : Mem _ _ [itC b1 ((s.extract p s.size)) 0, pt c #[.string s, .int .i64 ((p : Int)), .slice v X.length cap] 75, own 77 4 (.slice v X.length cap) X.length (tokv X)] _ := hM
 refine D.done ?_
 replace hA : St 66 [(0, _), (3, _), (15, _)] a := hA.sub ((.cons rfl (.cons rfl (.cons rfl .nil))))
 refine Ends.block ?_
 have hes : (s.extract p s.size).size = s.size - p := size_ext (Nat.le_refl _)
 refine Ends.loop (σ := Nat) (fun q (a : Act) (wv : World) => St 66 [(0, .pointer (some ⟨c, 0, none⟩)), (3, .int .i64 ((q : Int))), (15, .pointer (some ⟨b1, 0, none⟩))] a ∧ Mem w (feet [pt c #[.string s, .int .i64 ((p : Int)), .slice v X.length cap] 75, own 77 4 (.slice v X.length cap) X.length (tokv X)]) [itC b1 ((s.extract p s.size)) q, pt c #[.string s, .int .i64 ((p : Int)), .slice v X.length cap] 75, own 77 4 (.slice v X.length cap) X.length (tokv X)] wv ∧ (p + q ≤ s.size) ∧ (∀ j, j < q → kb s (p + j) = 3)) (fun q => s.size - q) 0 ⟨hA.sub ((.cons rfl (.cons rfl (.cons rfl .nil)))), hM, (by omega), (fun j hj => absurd hj (Nat.not_lt_zero j))⟩ ?_
 clear hA hM a
 rintro q a w2 ⟨hA, hM, hq, hl⟩ hNext
 refine Ends.seq (Ends.region ?_)
 by_cases hp3 : q < ((s.extract p s.size)).size
 ·
  refine S.nextT (k := 0) hA hM rfl rfl hp3 rfl ?_; clear hA hM a; intro w3 hM a hA
  replace hM : Mem _ _ [itC b1 ((s.extract p s.size)) ((q + (Utf8.decode ((s.extract p s.size)) q).2)), pt c #[.string s, .int .i64 ((p : Int)), .slice v X.length cap] 75, own 77 4 (.slice v X.length cap) X.length (tokv X)] _ := hM
  refine S.val hA (R.extract (v := .bool true) rfl rfl) rfl ?_; clear hA a; intro a hA
  refine S.done ?_
  refine Ends.seq ?_
  refine Ends.condT hA rfl ?_
  refine Ends.skip (Ends.block (Ends.seq (Ends.region ?_)))
  refine S.val hA (R.extract (v := .int .i32 (((Utf8.decode ((s.extract p s.size)) q).1 : Int))) rfl rfl) rfl ?_; clear hA a; intro a hA
  refine S.val hA (R.assign rfl) rfl ?_; clear hA a; intro a hA
  refine S.done ?_
  refine Ends.seq (Ends.seq (Ends.region ?_))
  refine S.val hA (R.move rfl) rfl ?_; clear hA a; intro a hA
  refine S.call hA (R.callF Tryd.func86 rfl rfl rfl) rfl (kind_any (((Utf8.decode ((s.extract p s.size)) q).1 : Int)) _) ?_; clear hA a
  rintro e w4 ⟨rfl, hb⟩
  replace hM := hM.callB hb; clear hb
  refine ⟨.int .i64 (kindI (((Utf8.decode ((s.extract p s.size)) q).1 : Int))), rfl, fun a hA => ?_⟩
  refine S.val hA (R.neq rfl rfl) rfl ?_; clear hA a; intro a hA
  refine S.done ?_
  replace hA : St 66 [(0, _), (3, _), (15, _), (21, _)] a := hA.sub ((.cons rfl (.cons rfl (.cons rfl (.cons rfl .nil)))))
  refine Ends.ite hA rfl (fun hc4 => ?_) (fun hc4 => ?_)
  ·
   refine Ends.exit rfl ?_
   refine Ends.seq (Ends.seq ?_)
   have hq4 : kb s (p + q) ≠ 3 := by have h9 := hc4; rw [(dec_kb hp3).1, kb_ext (Nat.le_of_lt hp)] at h9; exact h9
   have hlq : ltrs s p = q := ltrs_uniq hl hq4
   refine Ends.region ?_
   refine S.val hA (R.move rfl) rfl ?_; clear hA a; intro a hA
   refine S.val hA (R.ff (R.gtr rfl rfl) (by omega)) rfl ?_; clear hA a; intro a hA
   refine S.done ?_
   refine Ends.condF hA rfl ?_
   refine Ends.skip (Ends.seq ?_)
   refine Ends.drawn (Mem w (feet [pt c #[.string s, .int .i64 ((p : Int)), .slice v X.length cap] 75, own 77 4 (.slice v X.length cap) X.length (tokv X)]) [pt c #[.string s, .int .i64 ((p : Int)), .slice v X.length cap] 75]) (.cons (0, true) (.cons (1, true) (.cons (2, true) (.cons (3, true) (.cons (4, true) (.cons (5, true) (.cons (6, true) (.cons (7, true) (.cons (8, true) (.cons (9, true) (.cons (10, true) (.cons (11, true) (.cons (12, true) (.cons (13, true) (.cons (14, true) (.cons (15, true) (.cons (16, true) (.cons (17, true) (.cons (18, true) (.cons (19, true) (.cons (20, true) (.cons (21, true) (.cons (22, true) (.cons (23, true) (.cons (24, true) (.cons (25, false) (.cons (26, false) (.cons (27, true) (.cons (28, true) (.cons (29, false) .nil)))))))))))))))))))))))))))))) 29 mixed (by kernel_rfl) (by kernel_rfl) (by kernel_rfl) ((hM.drop 2).drop 0).drew ?_
   replace hM := hM.drew
   refine D.valF hA rfl (fun _ => R.move rfl) rfl ?_; clear hA a; intro a hA
   refine D.valF hA rfl (fun _ => R.move rfl) rfl ?_; clear hA a; intro a hA
   refine D.valF hA rfl (fun _ => R.nilCheck rfl) rfl ?_; clear hA a; intro a hA
   refine D.valF hA rfl (fun _ => R.fieldAddr (q := 2) fi75_2 rfl rfl rfl) rfl ?_; clear hA a; intro a hA
   refine D.val hA rfl (by kernel_rfl) (fun _ hM => R.load sz48 rfl (hM.cell (k := 0) rfl rfl)) rfl ?_; clear hA a; intro a hA
   refine D.valF hA rfl (fun _ => R.move rfl) rfl ?_; clear hA a; intro a hA
   refine D.valF hA rfl (fun _ => R.nilCheck rfl) rfl ?_; clear hA a; intro a hA
   refine D.valF hA rfl (fun _ => R.fieldAddr (q := 0) fi75_0 rfl rfl rfl) rfl ?_; clear hA a; intro a hA
   refine D.val hA rfl (by kernel_rfl) (fun _ hM => R.load sz9 rfl (hM.cell (k := 0) rfl rfl)) rfl ?_; clear hA a; intro a hA
   refine D.valF hA rfl (fun _ => R.move rfl) rfl ?_; clear hA a; intro a hA
   refine D.valF hA rfl (fun _ => R.nilCheck rfl) rfl ?_; clear hA a; intro a hA
   refine D.valF hA rfl (fun _ => R.fieldAddr (q := 1) fi75_1 rfl rfl rfl) rfl ?_; clear hA a; intro a hA
   refine D.val hA rfl (by kernel_rfl) (fun _ hM => R.load sz3 rfl (hM.cell (k := 0) rfl rfl)) rfl ?_; clear hA a; intro a hA
   refine D.valF hA rfl (fun _ => R.move rfl) rfl ?_; clear hA a; intro a hA
   refine D.valF hA rfl (fun _ => R.nilCheck rfl) rfl ?_; clear hA a; intro a hA
   refine D.valF hA rfl (fun _ => R.fieldAddr (q := 1) fi75_1 rfl rfl rfl) rfl ?_; clear hA a; intro a hA
   refine D.val hA rfl (by kernel_rfl) (fun _ hM => R.load sz3 rfl (hM.cell (k := 0) rfl rfl)) rfl ?_; clear hA a; intro a hA
   refine D.valF hA rfl (fun _ => R.move rfl) rfl ?_; clear hA a; intro a hA
   refine D.valF hA rfl (fun _ => R.addI rfl rfl (r := ((p + q : Nat) : Int)) (by omega) (by omega)) rfl ?_; clear hA a; intro a hA
   refine D.valF hA rfl (fun _ => R.to (v := .string ((s.extract p (p + q)))) (R.sliceSS Tryd.underlying9 rfl rfl rfl (by omega)) (by first | rfl | (congr 2; done) | (congr 2 <;> omega))) rfl ?_; clear hA a; intro a hA
   refine D.valF hA rfl (fun _ => R.move rfl) rfl ?_; clear hA a; intro a hA
   refine D.valF hA rfl (fun _ => R.nilCheck rfl) rfl ?_; clear hA a; intro a hA
   refine D.valF hA rfl (fun _ => R.fieldAddr (q := 1) fi75_1 rfl rfl rfl) rfl ?_; clear hA a; intro a hA
   refine D.val hA rfl (by kernel_rfl) (fun _ hM => R.load sz3 rfl (hM.cell (k := 0) rfl rfl)) rfl ?_; clear hA a; intro a hA
   refine D.valF hA rfl (fun _ => R.build (cells := #[.int .i64 1, .string ((s.extract p (p + q))), .int .i64 0, .int .i64 ((p : Int))]) rfl (by kernel_rfl)) rfl ?_; clear hA a; intro a hA
   refine D.buildSl (cells := #[.int .i64 1, .string ((s.extract p (p + q))), .int .i64 0, .int .i64 ((p : Int))]) hA hM rfl Tryd.underlying48 info77 rfl rfl rfl rfl (by kernel_rfl) rfl ?_; clear hA hM a; intro b5 w5 hb6 hM; refine ⟨(fun hM => ((hM.drop 2).drop 0)) hM.tail, fun a hA => ?_⟩
   replace hM : Mem _ _ [pt b5 #[.int .i64 1, .string ((s.extract p (p + q))), .int .i64 0, .int .i64 ((p : Int))] 77, itC b1 ((s.extract p s.size)) ((q + (Utf8.decode ((s.extract p s.size)) q).2)), pt c #[.string s, .int .i64 ((p : Int)), .slice v X.length cap] 75, own 77 4 (.slice v X.length cap) X.length (tokv X)] _ := hM
   refine D.append (k := 3) (k2 := 0) hA hM rfl rfl rfl Tryd.underlying48 info77 rfl rfl rfl rfl rfl rfl rfl rfl rfl (by first | omega | (show (_ + 1) * 40 ≤ 140737488355328; omega) | (unfold maxLen; omega)) (by first | omega | (show (_ + 1) * 40 ≤ 140737488355328; omega) | (unfold maxLen; omega)) rfl ?_; clear hA hM a; intro a7 c8 w6 hM
   replace hM : Mem _ _ [pt b5 #[.int .i64 1, .string ((s.extract p (p + q))), .int .i64 0, .int .i64 ((p : Int))] 77, itC b1 ((s.extract p s.size)) ((q + (Utf8.decode ((s.extract p s.size)) q).2)), pt c #[.string s, .int .i64 ((p : Int)), .slice v X.length cap] 75, own 77 4 (.slice a7 (X.length + 1) c8) (X.length + 1) (tokv X ++ [.int .i64 1, .string ((s.extract p (p + q))), .int .i64 0, .int .i64 ((p : Int))])] _ := hM
   have hl9 : X.length + 1 = (X ++ [(⟨1, (s.extract p (p + q)), 0, (p : Int)⟩ : Tok)]).length := by simp
   rw [hl9, show tokv X ++ [.int .i64 1, .string ((s.extract p (p + q))), .int .i64 0, .int .i64 ((p : Int))] = tokv (X ++ [(⟨1, (s.extract p (p + q)), 0, (p : Int)⟩ : Tok)]) from tokv_app X (⟨1, (s.extract p (p + q)), 0, (p : Int)⟩ : Tok)] at hM
   replace hM := hM.drop 0
   replace hM : Mem _ _ [itC b1 ((s.extract p s.size)) ((q + (Utf8.decode ((s.extract p s.size)) q).2)), pt c #[.string s, .int .i64 ((p : Int)), .slice v X.length cap] 75, own 77 4 (.slice a7 (((X ++ [(⟨1, (s.extract p (p + q)), 0, (p : Int)⟩ : Tok)])).length) c8) (((X ++ [(⟨1, (s.extract p (p + q)), 0, (p : Int)⟩ : Tok)])).length) (tokv ((X ++ [(⟨1, (s.extract p (p + q)), 0, (p : Int)⟩ : Tok)])))] _ := hM
   refine ⟨((hM.drop 2).drop 0), fun a hA => ?_⟩; rw [hl9] at hA; clear hl9
   refine D.valF hA rfl (fun _ => R.nilCheck rfl) rfl ?_; clear hA a; intro a hA
   refine D.valF hA rfl (fun _ => R.fieldAddr (q := 2) fi75_2 rfl rfl rfl) rfl ?_; clear hA a; intro a hA
   refine D.store (k := 1) hA hM rfl sz48 rfl rfl rfl rfl rfl ?_; clear hM
   intro w7 hM; refine ⟨fun _ hne => absurd rfl hne, ?_⟩
   replace hM : Mem _ _ [itC b1 ((s.extract p s.size)) ((q + (Utf8.decode ((s.extract p s.size)) q).2)), pt c #[.string s, .int .i64 ((p : Int)), .slice a7 (((X ++ [(⟨1, (s.extract p (p + q)), 0, (p : Int)⟩ : Tok)])).length) c8] 75, own 77 4 (.slice a7 (((X ++ [(⟨1, (s.extract p (p + q)), 0, (p : Int)⟩ : Tok)])).length) c8) (((X ++ [(⟨1, (s.extract p (p + q)), 0, (p : Int)⟩ : Tok)])).length) (tokv ((X ++ [(⟨1, (s.extract p (p + q)), 0, (p : Int)⟩ : Tok)])))] _ := hM
   refine D.done ?_
   replace hA : St 66 [(0, _), (3, _)] a := hA.sub ((.cons rfl (.cons rfl .nil)))
   refine Ends.seq (Ends.region ?_)
   refine S.val hA (R.move rfl) rfl ?_; clear hA a; intro a hA
   refine S.val hA (R.nilCheck rfl) rfl ?_; clear hA a; intro a hA
   refine S.val hA (R.fieldAddr (q := 1) fi75_1 rfl rfl rfl) rfl ?_; clear hA a; intro a hA
   refine S.val hA (R.load sz3 rfl (hM.cell (k := 1) rfl rfl)) rfl ?_; clear hA a; intro a hA
   refine S.val hA (R.move rfl) rfl ?_; clear hA a; intro a hA
   refine S.val hA (R.addI rfl rfl (r := ((p + q : Nat) : Int)) (by omega) (by omega)) rfl ?_; clear hA a; intro a hA
   refine S.val hA (R.nilCheck rfl) rfl ?_; clear hA a; intro a hA
   refine S.val hA (R.fieldAddr (q := 1) fi75_1 rfl rfl rfl) rfl ?_; clear hA a; intro a hA
   refine S.store (k := 1) hA hM sz3 rfl rfl rfl rfl rfl ?_; clear hM
   intro w8 hM
   replace hM : Mem _ _ [itC b1 ((s.extract p s.size)) ((q + (Utf8.decode ((s.extract p s.size)) q).2)), pt c #[.string s, .int .i64 (((p + q : Nat) : Int)), .slice a7 (((X ++ [(⟨1, (s.extract p (p + q)), 0, (p : Int)⟩ : Tok)])).length) c8] 75, own 77 4 (.slice a7 (((X ++ [(⟨1, (s.extract p (p + q)), 0, (p : Int)⟩ : Tok)])).length) c8) (((X ++ [(⟨1, (s.extract p (p + q)), 0, (p : Int)⟩ : Tok)])).length) (tokv ((X ++ [(⟨1, (s.extract p (p + q)), 0, (p : Int)⟩ : Tok)])))] _ := hM
   refine S.done ?_
   replace hA : St 66 [(0, _)] a := hA.sub ((.cons rfl .nil))
   refine Ends.seq (Ends.seq (Ends.region ?_))
   refine S.val hA (R.move rfl) rfl ?_; clear hA a; intro a hA
   refine S.call hA (R.callF Tryd.func69 rfl rfl rfl) rfl (lkind s (p + q) c (.slice a7 (((X ++ [(⟨1, (s.extract p (p + q)), 0, (p : Int)⟩ : Tok)])).length) c8) _ (hM.block (k := 1) rfl) (htab.mem hM hoff)) ?_; clear hA a
   rintro e w9 ⟨rfl, hb⟩
   replace hM := hM.callB hb; clear hb
   refine ⟨.int .i64 (kb s (p + q)), rfl, fun a hA => ?_⟩
   refine S.val hA (R.ff (R.eql rfl rfl) (by rw [← hlq]; exact h2)) rfl ?_; clear hA a; intro a hA
   refine S.done ?_
   refine Ends.condF hA rfl ?_
   refine Ends.skip (Ends.seq (Ends.region ?_))
   refine S.val hA (R.assign rfl) rfl ?_; clear hA a; intro a hA
   refine S.done ?_
   replace hA : St 66 [(2, _)] a := hA.sub ((.cons rfl .nil))
   refine Ends.ret1 Tryd.func71 Tryd.results71 hA rfl ?_
   replace hM := hM.front (k := 2) rfl
   replace hM := hM.front (k := 2) rfl
   replace hM : Mem _ _ [pt c #[.string s, .int .i64 (((p + q : Nat) : Int)), .slice a7 (((X ++ [(⟨1, (s.extract p (p + q)), 0, (p : Int)⟩ : Tok)])).length) c8] 75, own 77 4 (.slice a7 (((X ++ [(⟨1, (s.extract p (p + q)), 0, (p : Int)⟩ : Tok)])).length) c8) (((X ++ [(⟨1, (s.extract p (p + q)), 0, (p : Int)⟩ : Tok)])).length) (tokv ((X ++ [(⟨1, (s.extract p (p + q)), 0, (p : Int)⟩ : Tok)]))), itC b1 ((s.extract p s.size)) ((q + (Utf8.decode ((s.extract p s.size)) q).2))] _ := hM
   replace hM := hM.firstN 2
   replace hM : Mem _ _ [pt c #[.string s, .int .i64 (((p + q : Nat) : Int)), .slice a7 (((X ++ [(⟨1, (s.extract p (p + q)), 0, (p : Int)⟩ : Tok)])).length) c8] 75, own 77 4 (.slice a7 (((X ++ [(⟨1, (s.extract p (p + q)), 0, (p : Int)⟩ : Tok)])).length) c8) (((X ++ [(⟨1, (s.extract p (p + q)), 0, (p : Int)⟩ : Tok)])).length) (tokv ((X ++ [(⟨1, (s.extract p (p + q)), 0, (p : Int)⟩ : Tok)])))] _ := hM
   rw [hlq]
   exact ⟨a7, c8, rfl, hM⟩
  ·
   refine Ends.skip (Ends.region ?_)
   refine S.val hA (R.move rfl) rfl ?_; clear hA a; intro a hA
   refine S.val hA (R.addI rfl rfl (r := ((q : Int)) + 1) rfl (by omega)) rfl ?_; clear hA a; intro a hA
   refine S.val hA (R.assign rfl) rfl ?_; clear hA a; intro a hA
   refine S.done ?_
   refine Ends.inBlock ?_
   have hq3 := Classical.byContradiction hc4
   have hd := dec_kb hp3
   rw [hd.1, kb_ext (Nat.le_of_lt hp)] at hq3
   rw [hd.2 (by rw [kb_ext (Nat.le_of_lt hp), hq3]; decide)] at hM
   exact hNext ((q + 1)) _ _ ((by show s.size - (q + 1) < s.size - q; omega)) ⟨hA.sub ((.cons rfl (.cons rfl (.cons rfl .nil)))), hM, (by omega), (fun j hj => by rcases Nat.lt_or_ge j q with g | g; exact hl j g; have e : j = q := (by omega); exact e ▸ hq3)⟩
 ·
  refine S.val hA (R.nextF (k := 0) hM rfl rfl hp3) rfl ?_; clear hA a; intro a hA
  refine S.val hA (R.extract (v := .bool false) rfl rfl) rfl ?_; clear hA a; intro a hA
  refine S.done ?_
  refine Ends.seq ?_
  refine Ends.condF hA rfl ?_
  refine Ends.exit rfl ?_
  refine Ends.seq (Ends.seq ?_)
  have hq4 : kb s (p + q) ≠ 3 := by rw [kb_out (by omega)]; decide
  have hlq : ltrs s p = q := ltrs_uniq hl hq4
  refine Ends.region ?_
  refine S.val hA (R.move rfl) rfl ?_; clear hA a; intro a hA
  refine S.val hA (R.ff (R.gtr rfl rfl) (by omega)) rfl ?_; clear hA a; intro a hA
  refine S.done ?_
  replace hA : St 66 [(0, _), (3, _), (25, _)] a := hA.sub ((.cons rfl (.cons rfl (.cons rfl .nil))))
  refine Ends.condF hA rfl ?_
  refine Ends.skip (Ends.seq ?_)
  refine Ends.drawn (Mem w (feet [pt c #[.string s, .int .i64 ((p : Int)), .slice v X.length cap] 75, own 77 4 (.slice v X.length cap) X.length (tokv X)]) [pt c #[.string s, .int .i64 ((p : Int)), .slice v X.length cap] 75]) (.cons (0, true) (.cons (1, true) (.cons (2, true) (.cons (3, true) (.cons (4, true) (.cons (5, true) (.cons (6, true) (.cons (7, true) (.cons (8, true) (.cons (9, true) (.cons (10, true) (.cons (11, true) (.cons (12, true) (.cons (13, true) (.cons (14, true) (.cons (15, true) (.cons (16, true) (.cons (17, true) (.cons (18, true) (.cons (19, true) (.cons (20, true) (.cons (21, true) (.cons (22, true) (.cons (23, true) (.cons (24, true) (.cons (25, false) (.cons (26, false) (.cons (27, true) (.cons (28, true) (.cons (29, false) .nil)))))))))))))))))))))))))))))) 29 mixed (by kernel_rfl) (by kernel_rfl) (by kernel_rfl) ((hM.drop 2).drop 0).drew ?_
  replace hM := hM.drew
  refine D.valF hA rfl (fun _ => R.move rfl) rfl ?_; clear hA a; intro a hA
  refine D.valF hA rfl (fun _ => R.move rfl) rfl ?_; clear hA a; intro a hA
  refine D.valF hA rfl (fun _ => R.nilCheck rfl) rfl ?_; clear hA a; intro a hA
  refine D.valF hA rfl (fun _ => R.fieldAddr (q := 2) fi75_2 rfl rfl rfl) rfl ?_; clear hA a; intro a hA
  refine D.val hA rfl (by kernel_rfl) (fun _ hM => R.load sz48 rfl (hM.cell (k := 0) rfl rfl)) rfl ?_; clear hA a; intro a hA
  refine D.valF hA rfl (fun _ => R.move rfl) rfl ?_; clear hA a; intro a hA
  refine D.valF hA rfl (fun _ => R.nilCheck rfl) rfl ?_; clear hA a; intro a hA
  refine D.valF hA rfl (fun _ => R.fieldAddr (q := 0) fi75_0 rfl rfl rfl) rfl ?_; clear hA a; intro a hA
  refine D.val hA rfl (by kernel_rfl) (fun _ hM => R.load sz9 rfl (hM.cell (k := 0) rfl rfl)) rfl ?_; clear hA a; intro a hA
  refine D.valF hA rfl (fun _ => R.move rfl) rfl ?_; clear hA a; intro a hA
  refine D.valF hA rfl (fun _ => R.nilCheck rfl) rfl ?_; clear hA a; intro a hA
  refine D.valF hA rfl (fun _ => R.fieldAddr (q := 1) fi75_1 rfl rfl rfl) rfl ?_; clear hA a; intro a hA
  refine D.val hA rfl (by kernel_rfl) (fun _ hM => R.load sz3 rfl (hM.cell (k := 0) rfl rfl)) rfl ?_; clear hA a; intro a hA
  refine D.valF hA rfl (fun _ => R.move rfl) rfl ?_; clear hA a; intro a hA
  refine D.valF hA rfl (fun _ => R.nilCheck rfl) rfl ?_; clear hA a; intro a hA
  refine D.valF hA rfl (fun _ => R.fieldAddr (q := 1) fi75_1 rfl rfl rfl) rfl ?_; clear hA a; intro a hA
  refine D.val hA rfl (by kernel_rfl) (fun _ hM => R.load sz3 rfl (hM.cell (k := 0) rfl rfl)) rfl ?_; clear hA a; intro a hA
  refine D.valF hA rfl (fun _ => R.move rfl) rfl ?_; clear hA a; intro a hA
  refine D.valF hA rfl (fun _ => R.addI rfl rfl (r := ((p + q : Nat) : Int)) (by omega) (by omega)) rfl ?_; clear hA a; intro a hA
  refine D.valF hA rfl (fun _ => R.to (v := .string ((s.extract p (p + q)))) (R.sliceSS Tryd.underlying9 rfl rfl rfl (by omega)) (by first | rfl | (congr 2; done) | (congr 2 <;> omega))) rfl ?_; clear hA a; intro a hA
  refine D.valF hA rfl (fun _ => R.move rfl) rfl ?_; clear hA a; intro a hA
  refine D.valF hA rfl (fun _ => R.nilCheck rfl) rfl ?_; clear hA a; intro a hA
  refine D.valF hA rfl (fun _ => R.fieldAddr (q := 1) fi75_1 rfl rfl rfl) rfl ?_; clear hA a; intro a hA
  refine D.val hA rfl (by kernel_rfl) (fun _ hM => R.load sz3 rfl (hM.cell (k := 0) rfl rfl)) rfl ?_; clear hA a; intro a hA
  refine D.valF hA rfl (fun _ => R.build (cells := #[.int .i64 1, .string ((s.extract p (p + q))), .int .i64 0, .int .i64 ((p : Int))]) rfl (by kernel_rfl)) rfl ?_; clear hA a; intro a hA
  refine D.buildSl (cells := #[.int .i64 1, .string ((s.extract p (p + q))), .int .i64 0, .int .i64 ((p : Int))]) hA hM rfl Tryd.underlying48 info77 rfl rfl rfl rfl (by kernel_rfl) rfl ?_; clear hA hM a; intro b10 w10 hb11 hM; refine ⟨(fun hM => ((hM.drop 2).drop 0)) hM.tail, fun a hA => ?_⟩
  replace hM : Mem _ _ [pt b10 #[.int .i64 1, .string ((s.extract p (p + q))), .int .i64 0, .int .i64 ((p : Int))] 77, itC b1 ((s.extract p s.size)) q, pt c #[.string s, .int .i64 ((p : Int)), .slice v X.length cap] 75, own 77 4 (.slice v X.length cap) X.length (tokv X)] _ := hM
  refine D.append (k := 3) (k2 := 0) hA hM rfl rfl rfl Tryd.underlying48 info77 rfl rfl rfl rfl rfl rfl rfl rfl rfl (by first | omega | (show (_ + 1) * 40 ≤ 140737488355328; omega) | (unfold maxLen; omega)) (by first | omega | (show (_ + 1) * 40 ≤ 140737488355328; omega) | (unfold maxLen; omega)) rfl ?_; clear hA hM a; intro a12 c13 w11 hM
  replace hM : Mem _ _ [pt b10 #[.int .i64 1, .string ((s.extract p (p + q))), .int .i64 0, .int .i64 ((p : Int))] 77, itC b1 ((s.extract p s.size)) q, pt c #[.string s, .int .i64 ((p : Int)), .slice v X.length cap] 75, own 77 4 (.slice a12 (X.length + 1) c13) (X.length + 1) (tokv X ++ [.int .i64 1, .string ((s.extract p (p + q))), .int .i64 0, .int .i64 ((p : Int))])] _ := hM
  have hl14 : X.length + 1 = (X ++ [(⟨1, (s.extract p (p + q)), 0, (p : Int)⟩ : Tok)]).length := by simp
  rw [hl14, show tokv X ++ [.int .i64 1, .string ((s.extract p (p + q))), .int .i64 0, .int .i64 ((p : Int))] = tokv (X ++ [(⟨1, (s.extract p (p + q)), 0, (p : Int)⟩ : Tok)]) from tokv_app X (⟨1, (s.extract p (p + q)), 0, (p : Int)⟩ : Tok)] at hM
  replace hM := hM.drop 0
  replace hM : Mem _ _ [itC b1 ((s.extract p s.size)) q, pt c #[.string s, .int .i64 ((p : Int)), .slice v X.length cap] 75, own 77 4 (.slice a12 (((X ++ [(⟨1, (s.extract p (p + q)), 0, (p : Int)⟩ : Tok)])).length) c13) (((X ++ [(⟨1, (s.extract p (p + q)), 0, (p : Int)⟩ : Tok)])).length) (tokv ((X ++ [(⟨1, (s.extract p (p + q)), 0, (p : Int)⟩ : Tok)])))] _ := hM
  refine ⟨((hM.drop 2).drop 0), fun a hA => ?_⟩; rw [hl14] at hA; clear hl14
  refine D.valF hA rfl (fun _ => R.nilCheck rfl) rfl ?_; clear hA a; intro a hA
  refine D.valF hA rfl (fun _ => R.fieldAddr (q := 2) fi75_2 rfl rfl rfl) rfl ?_; clear hA a; intro a hA
  refine D.store (k := 1) hA hM rfl sz48 rfl rfl rfl rfl rfl ?_; clear hM
  intro w12 hM; refine ⟨fun _ hne => absurd rfl hne, ?_⟩
  replace hM : Mem _ _ [itC b1 ((s.extract p s.size)) q, pt c #[.string s, .int .i64 ((p : Int)), .slice a12 (((X ++ [(⟨1, (s.extract p (p + q)), 0, (p : Int)⟩ : Tok)])).length) c13] 75, own 77 4 (.slice a12 (((X ++ [(⟨1, (s.extract p (p + q)), 0, (p : Int)⟩ : Tok)])).length) c13) (((X ++ [(⟨1, (s.extract p (p + q)), 0, (p : Int)⟩ : Tok)])).length) (tokv ((X ++ [(⟨1, (s.extract p (p + q)), 0, (p : Int)⟩ : Tok)])))] _ := hM
  refine D.done ?_
  replace hA : St 66 [(0, _), (3, _)] a := hA.sub ((.cons rfl (.cons rfl .nil)))
  refine Ends.seq (Ends.region ?_)
  refine S.val hA (R.move rfl) rfl ?_; clear hA a; intro a hA
  refine S.val hA (R.nilCheck rfl) rfl ?_; clear hA a; intro a hA
  refine S.val hA (R.fieldAddr (q := 1) fi75_1 rfl rfl rfl) rfl ?_; clear hA a; intro a hA
  refine S.val hA (R.load sz3 rfl (hM.cell (k := 1) rfl rfl)) rfl ?_; clear hA a; intro a hA
  refine S.val hA (R.move rfl) rfl ?_; clear hA a; intro a hA
  refine S.val hA (R.addI rfl rfl (r := ((p + q : Nat) : Int)) (by omega) (by omega)) rfl ?_; clear hA a; intro a hA
  refine S.val hA (R.nilCheck rfl) rfl ?_; clear hA a; intro a hA
  refine S.val hA (R.fieldAddr (q := 1) fi75_1 rfl rfl rfl) rfl ?_; clear hA a; intro a hA
  refine S.store (k := 1) hA hM sz3 rfl rfl rfl rfl rfl ?_; clear hM
  intro w13 hM
  replace hM : Mem _ _ [itC b1 ((s.extract p s.size)) q, pt c #[.string s, .int .i64 (((p + q : Nat) : Int)), .slice a12 (((X ++ [(⟨1, (s.extract p (p + q)), 0, (p : Int)⟩ : Tok)])).length) c13] 75, own 77 4 (.slice a12 (((X ++ [(⟨1, (s.extract p (p + q)), 0, (p : Int)⟩ : Tok)])).length) c13) (((X ++ [(⟨1, (s.extract p (p + q)), 0, (p : Int)⟩ : Tok)])).length) (tokv ((X ++ [(⟨1, (s.extract p (p + q)), 0, (p : Int)⟩ : Tok)])))] _ := hM
  refine S.done ?_
  replace hA : St 66 [(0, _)] a := hA.sub ((.cons rfl .nil))
  refine Ends.seq (Ends.seq (Ends.region ?_))
  refine S.val hA (R.move rfl) rfl ?_; clear hA a; intro a hA
  refine S.call hA (R.callF Tryd.func69 rfl rfl rfl) rfl (lkind s (p + q) c (.slice a12 (((X ++ [(⟨1, (s.extract p (p + q)), 0, (p : Int)⟩ : Tok)])).length) c13) _ (hM.block (k := 1) rfl) (htab.mem hM hoff)) ?_; clear hA a
  rintro e w14 ⟨rfl, hb⟩
  replace hM := hM.callB hb; clear hb
  refine ⟨.int .i64 (kb s (p + q)), rfl, fun a hA => ?_⟩
  refine S.val hA (R.ff (R.eql rfl rfl) (by rw [← hlq]; exact h2)) rfl ?_; clear hA a; intro a hA
  refine S.done ?_
  refine Ends.condF hA rfl ?_
  refine Ends.skip (Ends.seq (Ends.region ?_))
  refine S.val hA (R.assign rfl) rfl ?_; clear hA a; intro a hA
  refine S.done ?_
  replace hA : St 66 [(2, _)] a := hA.sub ((.cons rfl .nil))
  refine Ends.ret1 Tryd.func71 Tryd.results71 hA rfl ?_
  replace hM := hM.front (k := 2) rfl
  replace hM := hM.front (k := 2) rfl
  replace hM : Mem _ _ [pt c #[.string s, .int .i64 (((p + q : Nat) : Int)), .slice a12 (((X ++ [(⟨1, (s.extract p (p + q)), 0, (p : Int)⟩ : Tok)])).length) c13] 75, own 77 4 (.slice a12 (((X ++ [(⟨1, (s.extract p (p + q)), 0, (p : Int)⟩ : Tok)])).length) c13) (((X ++ [(⟨1, (s.extract p (p + q)), 0, (p : Int)⟩ : Tok)])).length) (tokv ((X ++ [(⟨1, (s.extract p (p + q)), 0, (p : Int)⟩ : Tok)]))), itC b1 ((s.extract p s.size)) q] _ := hM
  replace hM := hM.firstN 2
  replace hM : Mem _ _ [pt c #[.string s, .int .i64 (((p + q : Nat) : Int)), .slice a12 (((X ++ [(⟨1, (s.extract p (p + q)), 0, (p : Int)⟩ : Tok)])).length) c13] 75, own 77 4 (.slice a12 (((X ++ [(⟨1, (s.extract p (p + q)), 0, (p : Int)⟩ : Tok)])).length) c13) (((X ++ [(⟨1, (s.extract p (p + q)), 0, (p : Int)⟩ : Tok)])).length) (tokv ((X ++ [(⟨1, (s.extract p (p + q)), 0, (p : Int)⟩ : Tok)])))] _ := hM
  rw [hlq]
  exact ⟨a12, c13, rfl, hM⟩
set_option maxRecDepth 100000 in
set_option maxHeartbeats 400000 in
theorem lnum_e (s : ByteArray) (p c : Nat) (v : Option Addr) (cap : Nat) (X : List Tok) (hp : p < s.size) (hX : X.length ≤ 1000000) (hsz : s.size ≤ 1000000) (N D2 E2 : Int) (hr : readI s (p : Int) = (N, D2, E2)) (h : E2 ≠ 0) (w : World) (hM : Mem w (feet [pt c #[.string s, .int .i64 ((p : Int)), .slice v X.length cap] 75, own 77 4 (.slice v X.length cap) X.length (tokv X)]) [pt c #[.string s, .int .i64 ((p : Int)), .slice v X.length cap] 75, own 77 4 (.slice v X.length cap) X.length (tokv X)] w) (htab : U8T w) (hoff : OffT (feet [pt c #[.string s, .int .i64 ((p : Int)), .slice v X.length cap] 75, own 77 4 (.slice v X.length cap) X.length (tokv X)])) :
  Calls Tryd.prog 72 #[.pointer (some ⟨c, 0, none⟩)] w fun e w' => e = .returned (.int .i64 E2) ∧ Mem w (feet [pt c #[.string s, .int .i64 ((p : Int)), .slice v X.length cap] 75, own 77 4 (.slice v X.length cap) X.length (tokv X)]) [pt c #[.string s, .int .i64 ((p : Int)), .slice v X.length cap] 75, own 77 4 (.slice v X.length cap) X.length (tokv X)] w' := by
 refine Calls.of_ends (vs := [.pointer (some ⟨c, 0, none⟩)]) Tryd.func72 rfl Tryd.ntmps72 rfl ?_
 intro a hA
 replace hA : St 44 [(0, _)] a := hA
 refine Ends.seq (Ends.region ?_)
 refine S.val hA (R.assign rfl) rfl ?_; clear hA a; intro a hA
 refine S.done ?_
 refine Ends.seq ?_
 refine Ends.drawn (Mem w (feet [pt c #[.string s, .int .i64 ((p : Int)), .slice v X.length cap] 75, own 77 4 (.slice v X.length cap) X.length (tokv X)]) [pt c #[.string s, .int .i64 ((p : Int)), .slice v X.length cap] 75, own 77 4 (.slice v X.length cap) X.length (tokv X)]) (.cons (0, true) (.cons (1, true) (.cons (2, true) (.cons (3, true) (.cons (4, true) (.cons (5, true) (.cons (6, true) (.cons (7, true) (.cons (8, false) (.cons (9, true) (.cons (10, true) (.cons (11, true) (.cons (12, true) (.cons (13, true) (.cons (14, true) (.cons (15, true) .nil)))))))))))))))) 16 mixed (by kernel_rfl) (by kernel_rfl) (by kernel_rfl) hM.drew ?_
 replace hM := hM.drew
 refine D.valF hA rfl (fun _ => R.move rfl) rfl ?_; clear hA a; intro a hA
 refine D.valF hA rfl (fun _ => R.nilCheck rfl) rfl ?_; clear hA a; intro a hA
 refine D.valF hA rfl (fun _ => R.fieldAddr (q := 0) fi75_0 rfl rfl rfl) rfl ?_; clear hA a; intro a hA
 refine D.val hA rfl (by kernel_rfl) (fun _ hM => R.load sz9 rfl (hM.cell (k := 0) rfl rfl)) rfl ?_; clear hA a; intro a hA
 refine D.valF hA rfl (fun _ => R.move rfl) rfl ?_; clear hA a; intro a hA
 refine D.valF hA rfl (fun _ => R.nilCheck rfl) rfl ?_; clear hA a; intro a hA
 refine D.valF hA rfl (fun _ => R.fieldAddr (q := 1) fi75_1 rfl rfl rfl) rfl ?_; clear hA a; intro a hA
 refine D.val hA rfl (by kernel_rfl) (fun _ hM => R.load sz3 rfl (hM.cell (k := 0) rfl rfl)) rfl ?_; clear hA a; intro a hA
 refine D.call hA rfl (R.callF Tryd.func88 rfl rfl rfl) rfl (read_eq s (p : Int) N D2 E2 (by omega) hr _) ?_; clear hA a
 rintro e w1 ⟨rfl, hb⟩
 replace hM := hM.callB hb; clear hb
 refine ⟨.tuple #[.int .i64 N, .int .i64 D2, .int .i64 E2], rfl, hM, fun a hA => ?_⟩
 refine D.valF hA rfl (fun _ => R.move rfl) rfl ?_; clear hA a; intro a hA
 refine D.valF hA rfl (fun _ => R.extract (v := .int .i64 N) rfl rfl) rfl ?_; clear hA a; intro a hA
 refine D.valF hA rfl (fun _ => R.extract (v := .int .i64 D2) rfl rfl) rfl ?_; clear hA a; intro a hA
 refine D.valF hA rfl (fun _ => R.extract (v := .int .i64 E2) rfl rfl) rfl ?_; clear hA a; intro a hA
 refine D.valF hA rfl (fun _ => R.assign rfl) rfl ?_; clear hA a; intro a hA
 refine D.valF hA rfl (fun _ => R.assign rfl) rfl ?_; clear hA a; intro a hA
 refine D.valF hA rfl (fun _ => R.assign rfl) rfl ?_; clear hA a; intro a hA
 refine D.done ?_
 replace hA : St 44 [(0, _), (3, _), (4, _), (5, _)] a := hA.sub ((.cons rfl (.cons rfl (.cons rfl (.cons rfl .nil)))))
 refine Ends.seq (Ends.seq (Ends.region ?_))
 refine S.val hA (R.move rfl) rfl ?_; clear hA a; intro a hA
 refine S.val hA (R.tt (R.neq rfl rfl) (by omega)) rfl ?_; clear hA a; intro a hA
 refine S.done ?_
 refine Ends.condT hA rfl ?_
 refine Ends.seq (Ends.region ?_)
 refine S.val hA (R.move rfl) rfl ?_; clear hA a; intro a hA
 refine S.val hA (R.assign rfl) rfl ?_; clear hA a; intro a hA
 refine S.done ?_
 replace hA : St 44 [(0, _), (2, _), (3, _), (4, _)] a := hA.sub ((.cons rfl (.cons rfl (.cons rfl (.cons rfl .nil)))))
 refine Ends.ret1 Tryd.func72 Tryd.results72 hA rfl ?_
 replace hM := hM.firstN 2
 replace hM : Mem _ _ [pt c #[.string s, .int .i64 ((p : Int)), .slice v X.length cap] 75, own 77 4 (.slice v X.length cap) X.length (tokv X)] _ := hM
 exact ⟨rfl, hM⟩
set_option maxRecDepth 100000 in
set_option maxHeartbeats 400000 in
theorem lnum_s (s : ByteArray) (p c : Nat) (v : Option Addr) (cap : Nat) (X : List Tok) (hp : p < s.size) (hX : X.length ≤ 1000000) (hsz : s.size ≤ 1000000) (N : Int) (d : Nat) (hr : readI s (p : Int) = (N, ((p + d : Nat) : Int), 0)) (h2 : kb s (p + d) = 3) (w : World) (hM : Mem w (feet [pt c #[.string s, .int .i64 ((p : Int)), .slice v X.length cap] 75, own 77 4 (.slice v X.length cap) X.length (tokv X)]) [pt c #[.string s, .int .i64 ((p : Int)), .slice v X.length cap] 75, own 77 4 (.slice v X.length cap) X.length (tokv X)] w) (htab : U8T w) (hoff : OffT (feet [pt c #[.string s, .int .i64 ((p : Int)), .slice v X.length cap] 75, own 77 4 (.slice v X.length cap) X.length (tokv X)])) :
  Calls Tryd.prog 72 #[.pointer (some ⟨c, 0, none⟩)] w fun e w' => ∃ v' cap', e = .returned (.int .i64 2) ∧ Mem w (feet [pt c #[.string s, .int .i64 ((p : Int)), .slice v X.length cap] 75, own 77 4 (.slice v X.length cap) X.length (tokv X)]) [pt c #[.string s, .int .i64 (((p + d : Nat) : Int)), .slice v' (((X ++ [(⟨2, ⟨#[]⟩, N, p⟩ : Tok)])).length) cap'] 75, own 77 4 (.slice v' (((X ++ [(⟨2, ⟨#[]⟩, N, p⟩ : Tok)])).length) cap') (((X ++ [(⟨2, ⟨#[]⟩, N, p⟩ : Tok)])).length) (tokv ((X ++ [(⟨2, ⟨#[]⟩, N, p⟩ : Tok)])))] w' := by
 refine Calls.of_ends (vs := [.pointer (some ⟨c, 0, none⟩)]) Tryd.func72 rfl Tryd.ntmps72 rfl ?_
 intro a hA
 replace hA : St 44 [(0, _)] a := hA
 refine Ends.seq (Ends.region ?_)
 refine S.val hA (R.assign rfl) rfl ?_; clear hA a; intro a hA
 refine S.done ?_
 refine Ends.seq ?_
 refine Ends.drawn (Mem w (feet [pt c #[.string s, .int .i64 ((p : Int)), .slice v X.length cap] 75, own 77 4 (.slice v X.length cap) X.length (tokv X)]) [pt c #[.string s, .int .i64 ((p : Int)), .slice v X.length cap] 75, own 77 4 (.slice v X.length cap) X.length (tokv X)]) (.cons (0, true) (.cons (1, true) (.cons (2, true) (.cons (3, true) (.cons (4, true) (.cons (5, true) (.cons (6, true) (.cons (7, true) (.cons (8, false) (.cons (9, true) (.cons (10, true) (.cons (11, true) (.cons (12, true) (.cons (13, true) (.cons (14, true) (.cons (15, true) .nil)))))))))))))))) 16 mixed (by kernel_rfl) (by kernel_rfl) (by kernel_rfl) hM.drew ?_
 replace hM := hM.drew
 refine D.valF hA rfl (fun _ => R.move rfl) rfl ?_; clear hA a; intro a hA
 refine D.valF hA rfl (fun _ => R.nilCheck rfl) rfl ?_; clear hA a; intro a hA
 refine D.valF hA rfl (fun _ => R.fieldAddr (q := 0) fi75_0 rfl rfl rfl) rfl ?_; clear hA a; intro a hA
 refine D.val hA rfl (by kernel_rfl) (fun _ hM => R.load sz9 rfl (hM.cell (k := 0) rfl rfl)) rfl ?_; clear hA a; intro a hA
 refine D.valF hA rfl (fun _ => R.move rfl) rfl ?_; clear hA a; intro a hA
 refine D.valF hA rfl (fun _ => R.nilCheck rfl) rfl ?_; clear hA a; intro a hA
 refine D.valF hA rfl (fun _ => R.fieldAddr (q := 1) fi75_1 rfl rfl rfl) rfl ?_; clear hA a; intro a hA
 refine D.val hA rfl (by kernel_rfl) (fun _ hM => R.load sz3 rfl (hM.cell (k := 0) rfl rfl)) rfl ?_; clear hA a; intro a hA
 refine D.call hA rfl (R.callF Tryd.func88 rfl rfl rfl) rfl (read_eq s (p : Int) N ((p + d : Nat) : Int) 0 (by omega) hr _) ?_; clear hA a
 rintro e w1 ⟨rfl, hb⟩
 replace hM := hM.callB hb; clear hb
 refine ⟨.tuple #[.int .i64 N, .int .i64 (((p + d : Nat) : Int)), .int .i64 0], rfl, hM, fun a hA => ?_⟩
 refine D.valF hA rfl (fun _ => R.move rfl) rfl ?_; clear hA a; intro a hA
 refine D.valF hA rfl (fun _ => R.extract (v := .int .i64 N) rfl rfl) rfl ?_; clear hA a; intro a hA
 refine D.valF hA rfl (fun _ => R.extract (v := .int .i64 (((p + d : Nat) : Int))) rfl rfl) rfl ?_; clear hA a; intro a hA
 refine D.valF hA rfl (fun _ => R.extract (v := .int .i64 0) rfl rfl) rfl ?_; clear hA a; intro a hA
 refine D.valF hA rfl (fun _ => R.assign rfl) rfl ?_; clear hA a; intro a hA
 refine D.valF hA rfl (fun _ => R.assign rfl) rfl ?_; clear hA a; intro a hA
 refine D.valF hA rfl (fun _ => R.assign rfl) rfl ?_; clear hA a; intro a hA
 refine D.done ?_
 replace hA : St 44 [(0, _), (3, _), (4, _), (5, _)] a := hA.sub ((.cons rfl (.cons rfl (.cons rfl (.cons rfl .nil)))))
 refine Ends.seq (Ends.seq (Ends.region ?_))
 refine S.val hA (R.move rfl) rfl ?_; clear hA a; intro a hA
 refine S.val hA (R.ff (R.neq rfl rfl) (by first | decide | simp | omega)) rfl ?_; clear hA a; intro a hA
 refine S.done ?_
 refine Ends.condF hA rfl ?_
 refine Ends.skip (Ends.seq ?_)
 refine Ends.drawn (Mem w (feet [pt c #[.string s, .int .i64 ((p : Int)), .slice v X.length cap] 75, own 77 4 (.slice v X.length cap) X.length (tokv X)]) [pt c #[.string s, .int .i64 ((p : Int)), .slice v X.length cap] 75]) (.cons (0, true) (.cons (1, true) (.cons (2, true) (.cons (3, true) (.cons (4, true) (.cons (5, true) (.cons (6, true) (.cons (7, true) (.cons (8, true) (.cons (9, true) (.cons (10, true) (.cons (11, false) (.cons (12, false) (.cons (13, true) (.cons (14, true) (.cons (15, false) .nil)))))))))))))))) 15 mixed (by kernel_rfl) (by kernel_rfl) (by kernel_rfl) (hM.drop 1).drew ?_
 replace hM := hM.drew
 refine D.valF hA rfl (fun _ => R.move rfl) rfl ?_; clear hA a; intro a hA
 refine D.valF hA rfl (fun _ => R.move rfl) rfl ?_; clear hA a; intro a hA
 refine D.valF hA rfl (fun _ => R.nilCheck rfl) rfl ?_; clear hA a; intro a hA
 refine D.valF hA rfl (fun _ => R.fieldAddr (q := 2) fi75_2 rfl rfl rfl) rfl ?_; clear hA a; intro a hA
 refine D.val hA rfl (by kernel_rfl) (fun _ hM => R.load sz48 rfl (hM.cell (k := 0) rfl rfl)) rfl ?_; clear hA a; intro a hA
 refine D.valF hA rfl (fun _ => R.move rfl) rfl ?_; clear hA a; intro a hA
 refine D.valF hA rfl (fun _ => R.move rfl) rfl ?_; clear hA a; intro a hA
 refine D.valF hA rfl (fun _ => R.nilCheck rfl) rfl ?_; clear hA a; intro a hA
 refine D.valF hA rfl (fun _ => R.fieldAddr (q := 1) fi75_1 rfl rfl rfl) rfl ?_; clear hA a; intro a hA
 refine D.val hA rfl (by kernel_rfl) (fun _ hM => R.load sz3 rfl (hM.cell (k := 0) rfl rfl)) rfl ?_; clear hA a; intro a hA
 refine D.valF hA rfl (fun _ => R.build (cells := #[.int .i64 2, .string (⟨#[]⟩), .int .i64 N, .int .i64 ((p : Int))]) rfl (by kernel_rfl)) rfl ?_; clear hA a; intro a hA
 refine D.buildSl (cells := #[.int .i64 2, .string (⟨#[]⟩), .int .i64 N, .int .i64 ((p : Int))]) hA hM rfl Tryd.underlying48 info77 rfl rfl rfl rfl (by kernel_rfl) rfl ?_; clear hA hM a; intro b1 w2 hb2 hM; refine ⟨(fun hM => (hM.drop 1)) hM.tail, fun a hA => ?_⟩
 replace hM : Mem _ _ [pt b1 #[.int .i64 2, .string (⟨#[]⟩), .int .i64 N, .int .i64 ((p : Int))] 77, pt c #[.string s, .int .i64 ((p : Int)), .slice v X.length cap] 75, own 77 4 (.slice v X.length cap) X.length (tokv X)] _ := hM
 refine D.append (k := 2) (k2 := 0) hA hM rfl rfl rfl Tryd.underlying48 info77 rfl rfl rfl rfl rfl rfl rfl rfl rfl (by first | omega | (show (_ + 1) * 40 ≤ 140737488355328; omega) | (unfold maxLen; omega)) (by first | omega | (show (_ + 1) * 40 ≤ 140737488355328; omega) | (unfold maxLen; omega)) rfl ?_; clear hA hM a; intro a3 c4 w3 hM
 replace hM : Mem _ _ [pt b1 #[.int .i64 2, .string (⟨#[]⟩), .int .i64 N, .int .i64 ((p : Int))] 77, pt c #[.string s, .int .i64 ((p : Int)), .slice v X.length cap] 75, own 77 4 (.slice a3 (X.length + 1) c4) (X.length + 1) (tokv X ++ [.int .i64 2, .string (⟨#[]⟩), .int .i64 N, .int .i64 ((p : Int))])] _ := hM
 have hl5 : X.length + 1 = (X ++ [(⟨2, ⟨#[]⟩, N, (p : Int)⟩ : Tok)]).length := by simp
 rw [hl5, show tokv X ++ [.int .i64 2, .string (⟨#[]⟩), .int .i64 N, .int .i64 ((p : Int))] = tokv (X ++ [(⟨2, ⟨#[]⟩, N, (p : Int)⟩ : Tok)]) from tokv_app X (⟨2, ⟨#[]⟩, N, (p : Int)⟩ : Tok)] at hM
 replace hM := hM.drop 0
 replace hM : Mem _ _ [pt c #[.string s, .int .i64 ((p : Int)), .slice v X.length cap] 75, own 77 4 (.slice a3 (((X ++ [(⟨2, ⟨#[]⟩, N, (p : Int)⟩ : Tok)])).length) c4) (((X ++ [(⟨2, ⟨#[]⟩, N, (p : Int)⟩ : Tok)])).length) (tokv ((X ++ [(⟨2, ⟨#[]⟩, N, (p : Int)⟩ : Tok)])))] _ := hM
 refine ⟨(hM.drop 1), fun a hA => ?_⟩; rw [hl5] at hA; clear hl5
 refine D.valF hA rfl (fun _ => R.nilCheck rfl) rfl ?_; clear hA a; intro a hA
 refine D.valF hA rfl (fun _ => R.fieldAddr (q := 2) fi75_2 rfl rfl rfl) rfl ?_; clear hA a; intro a hA
 refine D.store (k := 0) hA hM rfl sz48 rfl rfl rfl rfl rfl ?_; clear hM
 intro w4 hM; refine ⟨fun _ hne => absurd rfl hne, ?_⟩
 replace hM : Mem _ _ [pt c #[.string s, .int .i64 ((p : Int)), .slice a3 (((X ++ [(⟨2, ⟨#[]⟩, N, (p : Int)⟩ : Tok)])).length) c4] 75, own 77 4 (.slice a3 (((X ++ [(⟨2, ⟨#[]⟩, N, (p : Int)⟩ : Tok)])).length) c4) (((X ++ [(⟨2, ⟨#[]⟩, N, (p : Int)⟩ : Tok)])).length) (tokv ((X ++ [(⟨2, ⟨#[]⟩, N, (p : Int)⟩ : Tok)])))] _ := hM
 refine D.done ?_
 replace hA : St 44 [(0, _), (4, _)] a := hA.sub ((.cons rfl (.cons rfl .nil)))
 refine Ends.seq (Ends.region ?_)
 refine S.val hA (R.move rfl) rfl ?_; clear hA a; intro a hA
 refine S.val hA (R.move rfl) rfl ?_; clear hA a; intro a hA
 refine S.val hA (R.nilCheck rfl) rfl ?_; clear hA a; intro a hA
 refine S.val hA (R.fieldAddr (q := 1) fi75_1 rfl rfl rfl) rfl ?_; clear hA a; intro a hA
 refine S.store (k := 0) hA hM sz3 rfl rfl rfl rfl rfl ?_; clear hM
 intro w5 hM
 replace hM : Mem _ _ [pt c #[.string s, .int .i64 (((p + d : Nat) : Int)), .slice a3 (((X ++ [(⟨2, ⟨#[]⟩, N, (p : Int)⟩ : Tok)])).length) c4] 75, own 77 4 (.slice a3 (((X ++ [(⟨2, ⟨#[]⟩, N, (p : Int)⟩ : Tok)])).length) c4) (((X ++ [(⟨2, ⟨#[]⟩, N, (p : Int)⟩ : Tok)])).length) (tokv ((X ++ [(⟨2, ⟨#[]⟩, N, (p : Int)⟩ : Tok)])))] _ := hM
 refine S.done ?_
 replace hA : St 44 [(0, _)] a := hA.sub ((.cons rfl .nil))
 refine Ends.seq (Ends.seq (Ends.region ?_))
 refine S.val hA (R.move rfl) rfl ?_; clear hA a; intro a hA
 refine S.call hA (R.callF Tryd.func69 rfl rfl rfl) rfl (lkind s (p + d) c (.slice a3 (((X ++ [(⟨2, ⟨#[]⟩, N, (p : Int)⟩ : Tok)])).length) c4) _ (hM.block (k := 0) rfl) (htab.mem hM hoff)) ?_; clear hA a
 rintro e w6 ⟨rfl, hb⟩
 replace hM := hM.callB hb; clear hb
 refine ⟨.int .i64 (kb s (p + d)), rfl, fun a hA => ?_⟩
 refine S.val hA (R.tt (R.eql rfl rfl) (h2)) rfl ?_; clear hA a; intro a hA
 refine S.done ?_
 refine Ends.condT hA rfl ?_
 refine Ends.seq (Ends.region ?_)
 refine S.val hA (R.assign rfl) rfl ?_; clear hA a; intro a hA
 refine S.done ?_
 replace hA : St 44 [(2, _)] a := hA.sub ((.cons rfl .nil))
 refine Ends.ret1 Tryd.func72 Tryd.results72 hA rfl ?_
 replace hM := hM.firstN 2
 replace hM : Mem _ _ [pt c #[.string s, .int .i64 (((p + d : Nat) : Int)), .slice a3 (((X ++ [(⟨2, ⟨#[]⟩, N, (p : Int)⟩ : Tok)])).length) c4] 75, own 77 4 (.slice a3 (((X ++ [(⟨2, ⟨#[]⟩, N, (p : Int)⟩ : Tok)])).length) c4) (((X ++ [(⟨2, ⟨#[]⟩, N, (p : Int)⟩ : Tok)])).length) (tokv ((X ++ [(⟨2, ⟨#[]⟩, N, (p : Int)⟩ : Tok)])))] _ := hM
 exact ⟨a3, c4, rfl, hM⟩
set_option maxRecDepth 100000 in
set_option maxHeartbeats 400000 in
theorem lnum_o (s : ByteArray) (p c : Nat) (v : Option Addr) (cap : Nat) (X : List Tok) (hp : p < s.size) (hX : X.length ≤ 1000000) (hsz : s.size ≤ 1000000) (N : Int) (d : Nat) (hr : readI s (p : Int) = (N, ((p + d : Nat) : Int), 0)) (h2 : kb s (p + d) ≠ 3) (w : World) (hM : Mem w (feet [pt c #[.string s, .int .i64 ((p : Int)), .slice v X.length cap] 75, own 77 4 (.slice v X.length cap) X.length (tokv X)]) [pt c #[.string s, .int .i64 ((p : Int)), .slice v X.length cap] 75, own 77 4 (.slice v X.length cap) X.length (tokv X)] w) (htab : U8T w) (hoff : OffT (feet [pt c #[.string s, .int .i64 ((p : Int)), .slice v X.length cap] 75, own 77 4 (.slice v X.length cap) X.length (tokv X)])) :
  Calls Tryd.prog 72 #[.pointer (some ⟨c, 0, none⟩)] w fun e w' => ∃ v' cap', e = .returned (.int .i64 0) ∧ Mem w (feet [pt c #[.string s, .int .i64 ((p : Int)), .slice v X.length cap] 75, own 77 4 (.slice v X.length cap) X.length (tokv X)]) [pt c #[.string s, .int .i64 (((p + d : Nat) : Int)), .slice v' (((X ++ [(⟨2, ⟨#[]⟩, N, p⟩ : Tok)])).length) cap'] 75, own 77 4 (.slice v' (((X ++ [(⟨2, ⟨#[]⟩, N, p⟩ : Tok)])).length) cap') (((X ++ [(⟨2, ⟨#[]⟩, N, p⟩ : Tok)])).length) (tokv ((X ++ [(⟨2, ⟨#[]⟩, N, p⟩ : Tok)])))] w' := by
 refine Calls.of_ends (vs := [.pointer (some ⟨c, 0, none⟩)]) Tryd.func72 rfl Tryd.ntmps72 rfl ?_
 intro a hA
 replace hA : St 44 [(0, _)] a := hA
 refine Ends.seq (Ends.region ?_)
 refine S.val hA (R.assign rfl) rfl ?_; clear hA a; intro a hA
 refine S.done ?_
 refine Ends.seq ?_
 refine Ends.drawn (Mem w (feet [pt c #[.string s, .int .i64 ((p : Int)), .slice v X.length cap] 75, own 77 4 (.slice v X.length cap) X.length (tokv X)]) [pt c #[.string s, .int .i64 ((p : Int)), .slice v X.length cap] 75, own 77 4 (.slice v X.length cap) X.length (tokv X)]) (.cons (0, true) (.cons (1, true) (.cons (2, true) (.cons (3, true) (.cons (4, true) (.cons (5, true) (.cons (6, true) (.cons (7, true) (.cons (8, false) (.cons (9, true) (.cons (10, true) (.cons (11, true) (.cons (12, true) (.cons (13, true) (.cons (14, true) (.cons (15, true) .nil)))))))))))))))) 16 mixed (by kernel_rfl) (by kernel_rfl) (by kernel_rfl) hM.drew ?_
 replace hM := hM.drew
 refine D.valF hA rfl (fun _ => R.move rfl) rfl ?_; clear hA a; intro a hA
 refine D.valF hA rfl (fun _ => R.nilCheck rfl) rfl ?_; clear hA a; intro a hA
 refine D.valF hA rfl (fun _ => R.fieldAddr (q := 0) fi75_0 rfl rfl rfl) rfl ?_; clear hA a; intro a hA
 refine D.val hA rfl (by kernel_rfl) (fun _ hM => R.load sz9 rfl (hM.cell (k := 0) rfl rfl)) rfl ?_; clear hA a; intro a hA
 refine D.valF hA rfl (fun _ => R.move rfl) rfl ?_; clear hA a; intro a hA
 refine D.valF hA rfl (fun _ => R.nilCheck rfl) rfl ?_; clear hA a; intro a hA
 refine D.valF hA rfl (fun _ => R.fieldAddr (q := 1) fi75_1 rfl rfl rfl) rfl ?_; clear hA a; intro a hA
 refine D.val hA rfl (by kernel_rfl) (fun _ hM => R.load sz3 rfl (hM.cell (k := 0) rfl rfl)) rfl ?_; clear hA a; intro a hA
 refine D.call hA rfl (R.callF Tryd.func88 rfl rfl rfl) rfl (read_eq s (p : Int) N ((p + d : Nat) : Int) 0 (by omega) hr _) ?_; clear hA a
 rintro e w1 ⟨rfl, hb⟩
 replace hM := hM.callB hb; clear hb
 refine ⟨.tuple #[.int .i64 N, .int .i64 (((p + d : Nat) : Int)), .int .i64 0], rfl, hM, fun a hA => ?_⟩
 refine D.valF hA rfl (fun _ => R.move rfl) rfl ?_; clear hA a; intro a hA
 refine D.valF hA rfl (fun _ => R.extract (v := .int .i64 N) rfl rfl) rfl ?_; clear hA a; intro a hA
 refine D.valF hA rfl (fun _ => R.extract (v := .int .i64 (((p + d : Nat) : Int))) rfl rfl) rfl ?_; clear hA a; intro a hA
 refine D.valF hA rfl (fun _ => R.extract (v := .int .i64 0) rfl rfl) rfl ?_; clear hA a; intro a hA
 refine D.valF hA rfl (fun _ => R.assign rfl) rfl ?_; clear hA a; intro a hA
 refine D.valF hA rfl (fun _ => R.assign rfl) rfl ?_; clear hA a; intro a hA
 refine D.valF hA rfl (fun _ => R.assign rfl) rfl ?_; clear hA a; intro a hA
 refine D.done ?_
 replace hA : St 44 [(0, _), (3, _), (4, _), (5, _)] a := hA.sub ((.cons rfl (.cons rfl (.cons rfl (.cons rfl .nil)))))
 refine Ends.seq (Ends.seq (Ends.region ?_))
 refine S.val hA (R.move rfl) rfl ?_; clear hA a; intro a hA
 refine S.val hA (R.ff (R.neq rfl rfl) (by first | decide | simp | omega)) rfl ?_; clear hA a; intro a hA
 refine S.done ?_
 refine Ends.condF hA rfl ?_
 refine Ends.skip (Ends.seq ?_)
 refine Ends.drawn (Mem w (feet [pt c #[.string s, .int .i64 ((p : Int)), .slice v X.length cap] 75, own 77 4 (.slice v X.length cap) X.length (tokv X)]) [pt c #[.string s, .int .i64 ((p : Int)), .slice v X.length cap] 75]) (.cons (0, true) (.cons (1, true) (.cons (2, true) (.cons (3, true) (.cons (4, true) (.cons (5, true) (.cons (6, true) (.cons (7, true) (.cons (8, true) (.cons (9, true) (.cons (10, true) (.cons (11, false) (.cons (12, false) (.cons (13, true) (.cons (14, true) (.cons (15, false) .nil)))))))))))))))) 15 mixed (by kernel_rfl) (by kernel_rfl) (by kernel_rfl) (hM.drop 1).drew ?_
 replace hM := hM.drew
 refine D.valF hA rfl (fun _ => R.move rfl) rfl ?_; clear hA a; intro a hA
 refine D.valF hA rfl (fun _ => R.move rfl) rfl ?_; clear hA a; intro a hA
 refine D.valF hA rfl (fun _ => R.nilCheck rfl) rfl ?_; clear hA a; intro a hA
 refine D.valF hA rfl (fun _ => R.fieldAddr (q := 2) fi75_2 rfl rfl rfl) rfl ?_; clear hA a; intro a hA
 refine D.val hA rfl (by kernel_rfl) (fun _ hM => R.load sz48 rfl (hM.cell (k := 0) rfl rfl)) rfl ?_; clear hA a; intro a hA
 refine D.valF hA rfl (fun _ => R.move rfl) rfl ?_; clear hA a; intro a hA
 refine D.valF hA rfl (fun _ => R.move rfl) rfl ?_; clear hA a; intro a hA
 refine D.valF hA rfl (fun _ => R.nilCheck rfl) rfl ?_; clear hA a; intro a hA
 refine D.valF hA rfl (fun _ => R.fieldAddr (q := 1) fi75_1 rfl rfl rfl) rfl ?_; clear hA a; intro a hA
 refine D.val hA rfl (by kernel_rfl) (fun _ hM => R.load sz3 rfl (hM.cell (k := 0) rfl rfl)) rfl ?_; clear hA a; intro a hA
 refine D.valF hA rfl (fun _ => R.build (cells := #[.int .i64 2, .string (⟨#[]⟩), .int .i64 N, .int .i64 ((p : Int))]) rfl (by kernel_rfl)) rfl ?_; clear hA a; intro a hA
 refine D.buildSl (cells := #[.int .i64 2, .string (⟨#[]⟩), .int .i64 N, .int .i64 ((p : Int))]) hA hM rfl Tryd.underlying48 info77 rfl rfl rfl rfl (by kernel_rfl) rfl ?_; clear hA hM a; intro b1 w2 hb2 hM; refine ⟨(fun hM => (hM.drop 1)) hM.tail, fun a hA => ?_⟩
 replace hM : Mem _ _ [pt b1 #[.int .i64 2, .string (⟨#[]⟩), .int .i64 N, .int .i64 ((p : Int))] 77, pt c #[.string s, .int .i64 ((p : Int)), .slice v X.length cap] 75, own 77 4 (.slice v X.length cap) X.length (tokv X)] _ := hM
 refine D.append (k := 2) (k2 := 0) hA hM rfl rfl rfl Tryd.underlying48 info77 rfl rfl rfl rfl rfl rfl rfl rfl rfl (by first | omega | (show (_ + 1) * 40 ≤ 140737488355328; omega) | (unfold maxLen; omega)) (by first | omega | (show (_ + 1) * 40 ≤ 140737488355328; omega) | (unfold maxLen; omega)) rfl ?_; clear hA hM a; intro a3 c4 w3 hM
 replace hM : Mem _ _ [pt b1 #[.int .i64 2, .string (⟨#[]⟩), .int .i64 N, .int .i64 ((p : Int))] 77, pt c #[.string s, .int .i64 ((p : Int)), .slice v X.length cap] 75, own 77 4 (.slice a3 (X.length + 1) c4) (X.length + 1) (tokv X ++ [.int .i64 2, .string (⟨#[]⟩), .int .i64 N, .int .i64 ((p : Int))])] _ := hM
 have hl5 : X.length + 1 = (X ++ [(⟨2, ⟨#[]⟩, N, (p : Int)⟩ : Tok)]).length := by simp
 rw [hl5, show tokv X ++ [.int .i64 2, .string (⟨#[]⟩), .int .i64 N, .int .i64 ((p : Int))] = tokv (X ++ [(⟨2, ⟨#[]⟩, N, (p : Int)⟩ : Tok)]) from tokv_app X (⟨2, ⟨#[]⟩, N, (p : Int)⟩ : Tok)] at hM
 replace hM := hM.drop 0
 replace hM : Mem _ _ [pt c #[.string s, .int .i64 ((p : Int)), .slice v X.length cap] 75, own 77 4 (.slice a3 (((X ++ [(⟨2, ⟨#[]⟩, N, (p : Int)⟩ : Tok)])).length) c4) (((X ++ [(⟨2, ⟨#[]⟩, N, (p : Int)⟩ : Tok)])).length) (tokv ((X ++ [(⟨2, ⟨#[]⟩, N, (p : Int)⟩ : Tok)])))] _ := hM
 refine ⟨(hM.drop 1), fun a hA => ?_⟩; rw [hl5] at hA; clear hl5
 refine D.valF hA rfl (fun _ => R.nilCheck rfl) rfl ?_; clear hA a; intro a hA
 refine D.valF hA rfl (fun _ => R.fieldAddr (q := 2) fi75_2 rfl rfl rfl) rfl ?_; clear hA a; intro a hA
 refine D.store (k := 0) hA hM rfl sz48 rfl rfl rfl rfl rfl ?_; clear hM
 intro w4 hM; refine ⟨fun _ hne => absurd rfl hne, ?_⟩
 replace hM : Mem _ _ [pt c #[.string s, .int .i64 ((p : Int)), .slice a3 (((X ++ [(⟨2, ⟨#[]⟩, N, (p : Int)⟩ : Tok)])).length) c4] 75, own 77 4 (.slice a3 (((X ++ [(⟨2, ⟨#[]⟩, N, (p : Int)⟩ : Tok)])).length) c4) (((X ++ [(⟨2, ⟨#[]⟩, N, (p : Int)⟩ : Tok)])).length) (tokv ((X ++ [(⟨2, ⟨#[]⟩, N, (p : Int)⟩ : Tok)])))] _ := hM
 refine D.done ?_
 replace hA : St 44 [(0, _), (4, _)] a := hA.sub ((.cons rfl (.cons rfl .nil)))
 refine Ends.seq (Ends.region ?_)
 refine S.val hA (R.move rfl) rfl ?_; clear hA a; intro a hA
 refine S.val hA (R.move rfl) rfl ?_; clear hA a; intro a hA
 refine S.val hA (R.nilCheck rfl) rfl ?_; clear hA a; intro a hA
 refine S.val hA (R.fieldAddr (q := 1) fi75_1 rfl rfl rfl) rfl ?_; clear hA a; intro a hA
 refine S.store (k := 0) hA hM sz3 rfl rfl rfl rfl rfl ?_; clear hM
 intro w5 hM
 replace hM : Mem _ _ [pt c #[.string s, .int .i64 (((p + d : Nat) : Int)), .slice a3 (((X ++ [(⟨2, ⟨#[]⟩, N, (p : Int)⟩ : Tok)])).length) c4] 75, own 77 4 (.slice a3 (((X ++ [(⟨2, ⟨#[]⟩, N, (p : Int)⟩ : Tok)])).length) c4) (((X ++ [(⟨2, ⟨#[]⟩, N, (p : Int)⟩ : Tok)])).length) (tokv ((X ++ [(⟨2, ⟨#[]⟩, N, (p : Int)⟩ : Tok)])))] _ := hM
 refine S.done ?_
 replace hA : St 44 [(0, _)] a := hA.sub ((.cons rfl .nil))
 refine Ends.seq (Ends.seq (Ends.region ?_))
 refine S.val hA (R.move rfl) rfl ?_; clear hA a; intro a hA
 refine S.call hA (R.callF Tryd.func69 rfl rfl rfl) rfl (lkind s (p + d) c (.slice a3 (((X ++ [(⟨2, ⟨#[]⟩, N, (p : Int)⟩ : Tok)])).length) c4) _ (hM.block (k := 0) rfl) (htab.mem hM hoff)) ?_; clear hA a
 rintro e w6 ⟨rfl, hb⟩
 replace hM := hM.callB hb; clear hb
 refine ⟨.int .i64 (kb s (p + d)), rfl, fun a hA => ?_⟩
 refine S.val hA (R.ff (R.eql rfl rfl) (h2)) rfl ?_; clear hA a; intro a hA
 refine S.done ?_
 refine Ends.condF hA rfl ?_
 refine Ends.skip (Ends.seq (Ends.region ?_))
 refine S.val hA (R.assign rfl) rfl ?_; clear hA a; intro a hA
 refine S.done ?_
 replace hA : St 44 [(2, _)] a := hA.sub ((.cons rfl .nil))
 refine Ends.ret1 Tryd.func72 Tryd.results72 hA rfl ?_
 replace hM := hM.firstN 2
 replace hM : Mem _ _ [pt c #[.string s, .int .i64 (((p + d : Nat) : Int)), .slice a3 (((X ++ [(⟨2, ⟨#[]⟩, N, (p : Int)⟩ : Tok)])).length) c4] 75, own 77 4 (.slice a3 (((X ++ [(⟨2, ⟨#[]⟩, N, (p : Int)⟩ : Tok)])).length) c4) (((X ++ [(⟨2, ⟨#[]⟩, N, (p : Int)⟩ : Tok)])).length) (tokv ((X ++ [(⟨2, ⟨#[]⟩, N, (p : Int)⟩ : Tok)])))] _ := hM
 exact ⟨a3, c4, rfl, hM⟩
set_option maxRecDepth 100000 in
set_option maxHeartbeats 400000 in
theorem lone_1 (s : ByteArray) (p c : Nat) (v : Option Addr) (cap : Nat) (X : List Tok) (hp : p < s.size) (hX : X.length ≤ 1000000) (hsz : s.size ≤ 1000000) (hk : kb s p = 1) (w : World) (hM : Mem w (feet [pt c #[.string s, .int .i64 ((p : Int)), .slice v X.length cap] 75, own 77 4 (.slice v X.length cap) X.length (tokv X)]) [pt c #[.string s, .int .i64 ((p : Int)), .slice v X.length cap] 75, own 77 4 (.slice v X.length cap) X.length (tokv X)] w) (htab : U8T w) (hoff : OffT (feet [pt c #[.string s, .int .i64 ((p : Int)), .slice v X.length cap] 75, own 77 4 (.slice v X.length cap) X.length (tokv X)])) :
  Calls Tryd.prog 52 #[.pointer (some ⟨c, 0, none⟩)] w fun e w' => e = .returned (.int .i64 0) ∧ Mem w (feet [pt c #[.string s, .int .i64 ((p : Int)), .slice v X.length cap] 75, own 77 4 (.slice v X.length cap) X.length (tokv X)]) [pt c #[.string s, .int .i64 (((p + 1 : Nat) : Int)), .slice v X.length cap] 75, own 77 4 (.slice v X.length cap) X.length (tokv X)] w' := by
 refine Calls.of_ends (vs := [.pointer (some ⟨c, 0, none⟩)]) Tryd.func52 rfl Tryd.ntmps52 rfl ?_
 intro a hA
 replace hA : St 26 [(0, _)] a := hA
 refine Ends.seq (Ends.region ?_)
 refine S.val hA (R.assign rfl) rfl ?_; clear hA a; intro a hA
 refine S.done ?_
 refine Ends.seq (Ends.seq (Ends.region ?_))
 refine S.val hA (R.move rfl) rfl ?_; clear hA a; intro a hA
 refine S.call hA (R.callF Tryd.func69 rfl rfl rfl) rfl (lkind s p c (.slice v X.length cap) _ (hM.block (k := 0) rfl) (htab.mem hM hoff)) ?_; clear hA a
 rintro e w1 ⟨rfl, hb⟩
 replace hM := hM.callB hb; clear hb
 refine ⟨.int .i64 (kb s p), rfl, fun a hA => ?_⟩
 refine S.done ?_
 refine Ends.block (Ends.seq (Ends.region ?_))
 refine S.val hA (R.tt (R.eql rfl rfl) (by omega)) rfl ?_; clear hA a; intro a hA
 refine S.val hA (R.assign rfl) rfl ?_; clear hA a; intro a hA
 refine S.done ?_
 refine Ends.condT hA rfl ?_
 refine Ends.region ?_
 refine S.val hA (R.move rfl) rfl ?_; clear hA a; intro a hA
 refine S.val hA (R.nilCheck rfl) rfl ?_; clear hA a; intro a hA
 refine S.val hA (R.fieldAddr (q := 1) fi75_1 rfl rfl rfl) rfl ?_; clear hA a; intro a hA
 refine S.val hA (R.load sz3 rfl (hM.cell (k := 0) rfl rfl)) rfl ?_; clear hA a; intro a hA
 refine S.val hA (R.addI rfl rfl (r := ((p + 1 : Nat) : Int)) (by omega) (by omega)) rfl ?_; clear hA a; intro a hA
 refine S.val hA (R.nilCheck rfl) rfl ?_; clear hA a; intro a hA
 refine S.val hA (R.fieldAddr (q := 1) fi75_1 rfl rfl rfl) rfl ?_; clear hA a; intro a hA
 refine S.store (k := 0) hA hM sz3 rfl rfl rfl rfl rfl ?_; clear hM
 intro w2 hM
 replace hM : Mem _ _ [pt c #[.string s, .int .i64 (((p + 1 : Nat) : Int)), .slice v X.length cap] 75, own 77 4 (.slice v X.length cap) X.length (tokv X)] _ := hM
 refine S.done ?_
 replace hA : St 26 [] a := hA.sub (.nil)
 refine Ends.inBlock (Ends.seq (Ends.region ?_))
 refine S.val hA (R.assign rfl) rfl ?_; clear hA a; intro a hA
 refine S.done ?_
 refine Ends.ret1 Tryd.func52 Tryd.results52 hA rfl ?_
 replace hM := hM.firstN 2
 replace hM : Mem _ _ [pt c #[.string s, .int .i64 (((p + 1 : Nat) : Int)), .slice v X.length cap] 75, own 77 4 (.slice v X.length cap) X.length (tokv X)] _ := hM
 exact ⟨rfl, hM⟩
set_option maxRecDepth 100000 in
set_option maxHeartbeats 400000 in
theorem lone_0 (s : ByteArray) (p c : Nat) (v : Option Addr) (cap : Nat) (X : List Tok) (hp : p < s.size) (hX : X.length ≤ 1000000) (hsz : s.size ≤ 1000000) (hk : kb s p = 0) (w : World) (hM : Mem w (feet [pt c #[.string s, .int .i64 ((p : Int)), .slice v X.length cap] 75, own 77 4 (.slice v X.length cap) X.length (tokv X)]) [pt c #[.string s, .int .i64 ((p : Int)), .slice v X.length cap] 75, own 77 4 (.slice v X.length cap) X.length (tokv X)] w) (htab : U8T w) (hoff : OffT (feet [pt c #[.string s, .int .i64 ((p : Int)), .slice v X.length cap] 75, own 77 4 (.slice v X.length cap) X.length (tokv X)])) :
  Calls Tryd.prog 52 #[.pointer (some ⟨c, 0, none⟩)] w fun e w' => e = .returned (.int .i64 2) ∧ Mem w (feet [pt c #[.string s, .int .i64 ((p : Int)), .slice v X.length cap] 75, own 77 4 (.slice v X.length cap) X.length (tokv X)]) [pt c #[.string s, .int .i64 ((p : Int)), .slice v X.length cap] 75, own 77 4 (.slice v X.length cap) X.length (tokv X)] w' := by
 refine Calls.of_ends (vs := [.pointer (some ⟨c, 0, none⟩)]) Tryd.func52 rfl Tryd.ntmps52 rfl ?_
 intro a hA
 replace hA : St 26 [(0, _)] a := hA
 refine Ends.seq (Ends.region ?_)
 refine S.val hA (R.assign rfl) rfl ?_; clear hA a; intro a hA
 refine S.done ?_
 refine Ends.seq (Ends.seq (Ends.region ?_))
 refine S.val hA (R.move rfl) rfl ?_; clear hA a; intro a hA
 refine S.call hA (R.callF Tryd.func69 rfl rfl rfl) rfl (lkind s p c (.slice v X.length cap) _ (hM.block (k := 0) rfl) (htab.mem hM hoff)) ?_; clear hA a
 rintro e w1 ⟨rfl, hb⟩
 replace hM := hM.callB hb; clear hb
 refine ⟨.int .i64 (kb s p), rfl, fun a hA => ?_⟩
 refine S.done ?_
 refine Ends.block (Ends.seq (Ends.region ?_))
 refine S.val hA (R.ff (R.eql rfl rfl) (by omega)) rfl ?_; clear hA a; intro a hA
 refine S.val hA (R.assign rfl) rfl ?_; clear hA a; intro a hA
 refine S.done ?_
 refine Ends.condF hA rfl ?_
 refine Ends.seq (Ends.region ?_)
 refine S.val hA (R.ff (R.eql rfl rfl) (by omega)) rfl ?_; clear hA a; intro a hA
 refine S.val hA (R.assign rfl) rfl ?_; clear hA a; intro a hA
 refine S.done ?_
 replace hA : St 26 [(0, _), (4, _), (14, _)] a := hA.sub ((.cons rfl (.cons rfl (.cons rfl .nil))))
 refine Ends.condF hA rfl ?_
 refine Ends.seq (Ends.region ?_)
 refine S.val hA (R.ff (R.eql rfl rfl) (by omega)) rfl ?_; clear hA a; intro a hA
 refine S.val hA (R.assign rfl) rfl ?_; clear hA a; intro a hA
 refine S.done ?_
 refine Ends.condF hA rfl ?_
 refine Ends.seq (Ends.region ?_)
 refine S.val hA (R.ff (R.eql rfl rfl) (by omega)) rfl ?_; clear hA a; intro a hA
 refine S.val hA (R.assign rfl) rfl ?_; clear hA a; intro a hA
 refine S.done ?_
 replace hA : St 26 [(0, _), (22, _)] a := hA.sub ((.cons rfl (.cons rfl .nil)))
 refine Ends.condF hA rfl ?_
 refine Ends.seq (Ends.region ?_)
 refine S.val hA (R.assign rfl) rfl ?_; clear hA a; intro a hA
 refine S.done ?_
 refine Ends.ret1 Tryd.func52 Tryd.results52 hA rfl ?_
 replace hM := hM.firstN 2
 replace hM : Mem _ _ [pt c #[.string s, .int .i64 ((p : Int)), .slice v X.length cap] 75, own 77 4 (.slice v X.length cap) X.length (tokv X)] _ := hM
 exact ⟨rfl, hM⟩
set_option maxRecDepth 100000 in
set_option maxHeartbeats 400000 in
theorem lone_4 (s : ByteArray) (p c : Nat) (v : Option Addr) (cap : Nat) (X : List Tok) (hp : p < s.size) (hX : X.length ≤ 1000000) (hsz : s.size ≤ 1000000) (hk : kb s p = 4) (w : World) (hM : Mem w (feet [pt c #[.string s, .int .i64 ((p : Int)), .slice v X.length cap] 75, own 77 4 (.slice v X.length cap) X.length (tokv X)]) [pt c #[.string s, .int .i64 ((p : Int)), .slice v X.length cap] 75, own 77 4 (.slice v X.length cap) X.length (tokv X)] w) (htab : U8T w) (hoff : OffT (feet [pt c #[.string s, .int .i64 ((p : Int)), .slice v X.length cap] 75, own 77 4 (.slice v X.length cap) X.length (tokv X)])) :
  Calls Tryd.prog 52 #[.pointer (some ⟨c, 0, none⟩)] w fun e w' => e = .returned (.int .i64 0) ∧ Mem w (feet [pt c #[.string s, .int .i64 ((p : Int)), .slice v X.length cap] 75, own 77 4 (.slice v X.length cap) X.length (tokv X)]) [pt c #[.string s, .int .i64 (((p + eol s p : Nat) : Int)), .slice v X.length cap] 75, own 77 4 (.slice v X.length cap) X.length (tokv X)] w' := by
 refine Calls.of_ends (vs := [.pointer (some ⟨c, 0, none⟩)]) Tryd.func52 rfl Tryd.ntmps52 rfl ?_
 intro a hA
 replace hA : St 26 [(0, _)] a := hA
 refine Ends.seq (Ends.region ?_)
 refine S.val hA (R.assign rfl) rfl ?_; clear hA a; intro a hA
 refine S.done ?_
 refine Ends.seq (Ends.seq (Ends.region ?_))
 refine S.val hA (R.move rfl) rfl ?_; clear hA a; intro a hA
 refine S.call hA (R.callF Tryd.func69 rfl rfl rfl) rfl (lkind s p c (.slice v X.length cap) _ (hM.block (k := 0) rfl) (htab.mem hM hoff)) ?_; clear hA a
 rintro e w1 ⟨rfl, hb⟩
 replace hM := hM.callB hb; clear hb
 refine ⟨.int .i64 (kb s p), rfl, fun a hA => ?_⟩
 refine S.done ?_
 refine Ends.block (Ends.seq (Ends.region ?_))
 refine S.val hA (R.ff (R.eql rfl rfl) (by omega)) rfl ?_; clear hA a; intro a hA
 refine S.val hA (R.assign rfl) rfl ?_; clear hA a; intro a hA
 refine S.done ?_
 refine Ends.condF hA rfl ?_
 refine Ends.seq (Ends.region ?_)
 refine S.val hA (R.tt (R.eql rfl rfl) (by omega)) rfl ?_; clear hA a; intro a hA
 refine S.val hA (R.assign rfl) rfl ?_; clear hA a; intro a hA
 refine S.done ?_
 replace hA : St 26 [(0, _), (4, _), (14, _)] a := hA.sub ((.cons rfl (.cons rfl (.cons rfl .nil))))
 refine Ends.condT hA rfl ?_
 refine Ends.region ?_
 refine S.val hA (R.move rfl) rfl ?_; clear hA a; intro a hA
 refine S.call hA (R.callF Tryd.func70 rfl rfl rfl) rfl (lremark s p c v cap X (by omega) (by omega) (by omega) _ (hM.hereN 2) (htab.mem hM hoff) (OffT.feetN htab hM hoff 2)) ?_; clear hA a
 rintro e w2 ⟨rfl, hn⟩
 replace hM : Mem _ _ [pt c #[.string s, .int .i64 (((p + eol s p : Nat) : Int)), .slice v X.length cap] 75, own 77 4 (.slice v X.length cap) X.length (tokv X)] _ := hM.callL 2 hn; clear hn
 refine ⟨.tuple #[], rfl, fun a hA => ?_⟩
 refine S.done ?_
 replace hA : St 26 [] a := hA.sub (.nil)
 refine Ends.inBlock (Ends.seq (Ends.region ?_))
 refine S.val hA (R.assign rfl) rfl ?_; clear hA a; intro a hA
 refine S.done ?_
 refine Ends.ret1 Tryd.func52 Tryd.results52 hA rfl ?_
 replace hM := hM.firstN 2
 replace hM : Mem _ _ [pt c #[.string s, .int .i64 (((p + eol s p : Nat) : Int)), .slice v X.length cap] 75, own 77 4 (.slice v X.length cap) X.length (tokv X)] _ := hM
 exact ⟨rfl, hM⟩
set_option maxRecDepth 100000 in
set_option maxHeartbeats 400000 in
theorem lone_3b (s : ByteArray) (p c : Nat) (v : Option Addr) (cap : Nat) (X : List Tok) (hp : p < s.size) (hX : X.length ≤ 1000000) (hsz : s.size ≤ 1000000) (hk : kb s p = 3) (h : 16 < ltrs s p) (w : World) (hM : Mem w (feet [pt c #[.string s, .int .i64 ((p : Int)), .slice v X.length cap] 75, own 77 4 (.slice v X.length cap) X.length (tokv X)]) [pt c #[.string s, .int .i64 ((p : Int)), .slice v X.length cap] 75, own 77 4 (.slice v X.length cap) X.length (tokv X)] w) (htab : U8T w) (hoff : OffT (feet [pt c #[.string s, .int .i64 ((p : Int)), .slice v X.length cap] 75, own 77 4 (.slice v X.length cap) X.length (tokv X)])) :
  Calls Tryd.prog 52 #[.pointer (some ⟨c, 0, none⟩)] w fun e w' => e = .returned (.int .i64 5) ∧ Mem w (feet [pt c #[.string s, .int .i64 ((p : Int)), .slice v X.length cap] 75, own 77 4 (.slice v X.length cap) X.length (tokv X)]) [pt c #[.string s, .int .i64 ((p : Int)), .slice v X.length cap] 75, own 77 4 (.slice v X.length cap) X.length (tokv X)] w' := by
 refine Calls.of_ends (vs := [.pointer (some ⟨c, 0, none⟩)]) Tryd.func52 rfl Tryd.ntmps52 rfl ?_
 intro a hA
 replace hA : St 26 [(0, _)] a := hA
 refine Ends.seq (Ends.region ?_)
 refine S.val hA (R.assign rfl) rfl ?_; clear hA a; intro a hA
 refine S.done ?_
 refine Ends.seq (Ends.seq (Ends.region ?_))
 refine S.val hA (R.move rfl) rfl ?_; clear hA a; intro a hA
 refine S.call hA (R.callF Tryd.func69 rfl rfl rfl) rfl (lkind s p c (.slice v X.length cap) _ (hM.block (k := 0) rfl) (htab.mem hM hoff)) ?_; clear hA a
 rintro e w1 ⟨rfl, hb⟩
 replace hM := hM.callB hb; clear hb
 refine ⟨.int .i64 (kb s p), rfl, fun a hA => ?_⟩
 refine S.done ?_
 refine Ends.block (Ends.seq (Ends.region ?_))
 refine S.val hA (R.ff (R.eql rfl rfl) (by omega)) rfl ?_; clear hA a; intro a hA
 refine S.val hA (R.assign rfl) rfl ?_; clear hA a; intro a hA
 refine S.done ?_
 refine Ends.condF hA rfl ?_
 refine Ends.seq (Ends.region ?_)
 refine S.val hA (R.ff (R.eql rfl rfl) (by omega)) rfl ?_; clear hA a; intro a hA
 refine S.val hA (R.assign rfl) rfl ?_; clear hA a; intro a hA
 refine S.done ?_
 replace hA : St 26 [(0, _), (4, _), (14, _)] a := hA.sub ((.cons rfl (.cons rfl (.cons rfl .nil))))
 refine Ends.condF hA rfl ?_
 refine Ends.seq (Ends.region ?_)
 refine S.val hA (R.tt (R.eql rfl rfl) (by omega)) rfl ?_; clear hA a; intro a hA
 refine S.val hA (R.assign rfl) rfl ?_; clear hA a; intro a hA
 refine S.done ?_
 refine Ends.condT hA rfl ?_
 refine Ends.seq (Ends.region ?_)
 refine S.val hA (R.move rfl) rfl ?_; clear hA a; intro a hA
 refine S.call hA (R.callF Tryd.func71 rfl rfl rfl) rfl (lword_big s p c v cap X (by omega) (by omega) (by omega) h _ (hM.hereN 2) (htab.mem hM hoff) (OffT.feetN htab hM hoff 2)) ?_; clear hA a
 rintro e w2 ⟨rfl, hn⟩
 replace hM : Mem _ _ [pt c #[.string s, .int .i64 ((p : Int)), .slice v X.length cap] 75, own 77 4 (.slice v X.length cap) X.length (tokv X)] _ := hM.callL 2 hn; clear hn
 refine ⟨.int .i64 5, rfl, fun a hA => ?_⟩
 refine S.val hA (R.assign rfl) rfl ?_; clear hA a; intro a hA
 refine S.done ?_
 replace hA : St 26 [(2, _)] a := hA.sub ((.cons rfl .nil))
 refine Ends.ret1 Tryd.func52 Tryd.results52 hA rfl ?_
 replace hM := hM.firstN 2
 replace hM : Mem _ _ [pt c #[.string s, .int .i64 ((p : Int)), .slice v X.length cap] 75, own 77 4 (.slice v X.length cap) X.length (tokv X)] _ := hM
 exact ⟨rfl, hM⟩
set_option maxRecDepth 100000 in
set_option maxHeartbeats 400000 in
theorem lone_3s (s : ByteArray) (p c : Nat) (v : Option Addr) (cap : Nat) (X : List Tok) (hp : p < s.size) (hX : X.length ≤ 1000000) (hsz : s.size ≤ 1000000) (hk : kb s p = 3) (h : ¬ 16 < ltrs s p) (h2 : kb s (p + ltrs s p) = 2) (w : World) (hM : Mem w (feet [pt c #[.string s, .int .i64 ((p : Int)), .slice v X.length cap] 75, own 77 4 (.slice v X.length cap) X.length (tokv X)]) [pt c #[.string s, .int .i64 ((p : Int)), .slice v X.length cap] 75, own 77 4 (.slice v X.length cap) X.length (tokv X)] w) (htab : U8T w) (hoff : OffT (feet [pt c #[.string s, .int .i64 ((p : Int)), .slice v X.length cap] 75, own 77 4 (.slice v X.length cap) X.length (tokv X)])) :
  Calls Tryd.prog 52 #[.pointer (some ⟨c, 0, none⟩)] w fun e w' => ∃ v' cap', e = .returned (.int .i64 2) ∧ Mem w (feet [pt c #[.string s, .int .i64 ((p : Int)), .slice v X.length cap] 75, own 77 4 (.slice v X.length cap) X.length (tokv X)]) [pt c #[.string s, .int .i64 (((p + ltrs s p : Nat) : Int)), .slice v' (((X ++ [(⟨1, s.extract p (p + ltrs s p), 0, p⟩ : Tok)])).length) cap'] 75, own 77 4 (.slice v' (((X ++ [(⟨1, s.extract p (p + ltrs s p), 0, p⟩ : Tok)])).length) cap') (((X ++ [(⟨1, s.extract p (p + ltrs s p), 0, p⟩ : Tok)])).length) (tokv ((X ++ [(⟨1, s.extract p (p + ltrs s p), 0, p⟩ : Tok)])))] w' := by
 refine Calls.of_ends (vs := [.pointer (some ⟨c, 0, none⟩)]) Tryd.func52 rfl Tryd.ntmps52 rfl ?_
 intro a hA
 replace hA : St 26 [(0, _)] a := hA
 refine Ends.seq (Ends.region ?_)
 refine S.val hA (R.assign rfl) rfl ?_; clear hA a; intro a hA
 refine S.done ?_
 refine Ends.seq (Ends.seq (Ends.region ?_))
 refine S.val hA (R.move rfl) rfl ?_; clear hA a; intro a hA
 refine S.call hA (R.callF Tryd.func69 rfl rfl rfl) rfl (lkind s p c (.slice v X.length cap) _ (hM.block (k := 0) rfl) (htab.mem hM hoff)) ?_; clear hA a
 rintro e w1 ⟨rfl, hb⟩
 replace hM := hM.callB hb; clear hb
 refine ⟨.int .i64 (kb s p), rfl, fun a hA => ?_⟩
 refine S.done ?_
 refine Ends.block (Ends.seq (Ends.region ?_))
 refine S.val hA (R.ff (R.eql rfl rfl) (by omega)) rfl ?_; clear hA a; intro a hA
 refine S.val hA (R.assign rfl) rfl ?_; clear hA a; intro a hA
 refine S.done ?_
 refine Ends.condF hA rfl ?_
 refine Ends.seq (Ends.region ?_)
 refine S.val hA (R.ff (R.eql rfl rfl) (by omega)) rfl ?_; clear hA a; intro a hA
 refine S.val hA (R.assign rfl) rfl ?_; clear hA a; intro a hA
 refine S.done ?_
 replace hA : St 26 [(0, _), (4, _), (14, _)] a := hA.sub ((.cons rfl (.cons rfl (.cons rfl .nil))))
 refine Ends.condF hA rfl ?_
 refine Ends.seq (Ends.region ?_)
 refine S.val hA (R.tt (R.eql rfl rfl) (by omega)) rfl ?_; clear hA a; intro a hA
 refine S.val hA (R.assign rfl) rfl ?_; clear hA a; intro a hA
 refine S.done ?_
 refine Ends.condT hA rfl ?_
 refine Ends.seq (Ends.region ?_)
 refine S.val hA (R.move rfl) rfl ?_; clear hA a; intro a hA
 refine S.call hA (R.callF Tryd.func71 rfl rfl rfl) rfl (lword_s s p c v cap X (by omega) (by omega) (by omega) h h2 _ (hM.hereN 2) (htab.mem hM hoff) (OffT.feetN htab hM hoff 2)) ?_; clear hA a
 rintro e w2 ⟨v', cap', rfl, hn⟩
 replace hM : Mem _ _ [pt c #[.string s, .int .i64 (((p + ltrs s p : Nat) : Int)), .slice v' (((X ++ [(⟨1, s.extract p (p + ltrs s p), 0, p⟩ : Tok)])).length) cap'] 75, own 77 4 (.slice v' (((X ++ [(⟨1, s.extract p (p + ltrs s p), 0, p⟩ : Tok)])).length) cap') (((X ++ [(⟨1, s.extract p (p + ltrs s p), 0, p⟩ : Tok)])).length) (tokv ((X ++ [(⟨1, s.extract p (p + ltrs s p), 0, p⟩ : Tok)])))] _ := hM.callL 2 hn; clear hn
 refine ⟨.int .i64 2, rfl, fun a hA => ?_⟩
 refine S.val hA (R.assign rfl) rfl ?_; clear hA a; intro a hA
 refine S.done ?_
 replace hA : St 26 [(2, _)] a := hA.sub ((.cons rfl .nil))
 refine Ends.ret1 Tryd.func52 Tryd.results52 hA rfl ?_
 replace hM := hM.firstN 2
 replace hM : Mem _ _ [pt c #[.string s, .int .i64 (((p + ltrs s p : Nat) : Int)), .slice v' (((X ++ [(⟨1, s.extract p (p + ltrs s p), 0, p⟩ : Tok)])).length) cap'] 75, own 77 4 (.slice v' (((X ++ [(⟨1, s.extract p (p + ltrs s p), 0, p⟩ : Tok)])).length) cap') (((X ++ [(⟨1, s.extract p (p + ltrs s p), 0, p⟩ : Tok)])).length) (tokv ((X ++ [(⟨1, s.extract p (p + ltrs s p), 0, p⟩ : Tok)])))] _ := hM
 exact ⟨v', cap', rfl, hM⟩
set_option maxRecDepth 100000 in
set_option maxHeartbeats 400000 in
theorem lone_3o (s : ByteArray) (p c : Nat) (v : Option Addr) (cap : Nat) (X : List Tok) (hp : p < s.size) (hX : X.length ≤ 1000000) (hsz : s.size ≤ 1000000) (hk : kb s p = 3) (h : ¬ 16 < ltrs s p) (h2 : kb s (p + ltrs s p) ≠ 2) (w : World) (hM : Mem w (feet [pt c #[.string s, .int .i64 ((p : Int)), .slice v X.length cap] 75, own 77 4 (.slice v X.length cap) X.length (tokv X)]) [pt c #[.string s, .int .i64 ((p : Int)), .slice v X.length cap] 75, own 77 4 (.slice v X.length cap) X.length (tokv X)] w) (htab : U8T w) (hoff : OffT (feet [pt c #[.string s, .int .i64 ((p : Int)), .slice v X.length cap] 75, own 77 4 (.slice v X.length cap) X.length (tokv X)])) :
  Calls Tryd.prog 52 #[.pointer (some ⟨c, 0, none⟩)] w fun e w' => ∃ v' cap', e = .returned (.int .i64 0) ∧ Mem w (feet [pt c #[.string s, .int .i64 ((p : Int)), .slice v X.length cap] 75, own 77 4 (.slice v X.length cap) X.length (tokv X)]) [pt c #[.string s, .int .i64 (((p + ltrs s p : Nat) : Int)), .slice v' (((X ++ [(⟨1, s.extract p (p + ltrs s p), 0, p⟩ : Tok)])).length) cap'] 75, own 77 4 (.slice v' (((X ++ [(⟨1, s.extract p (p + ltrs s p), 0, p⟩ : Tok)])).length) cap') (((X ++ [(⟨1, s.extract p (p + ltrs s p), 0, p⟩ : Tok)])).length) (tokv ((X ++ [(⟨1, s.extract p (p + ltrs s p), 0, p⟩ : Tok)])))] w' := by
 refine Calls.of_ends (vs := [.pointer (some ⟨c, 0, none⟩)]) Tryd.func52 rfl Tryd.ntmps52 rfl ?_
 intro a hA
 replace hA : St 26 [(0, _)] a := hA
 refine Ends.seq (Ends.region ?_)
 refine S.val hA (R.assign rfl) rfl ?_; clear hA a; intro a hA
 refine S.done ?_
 refine Ends.seq (Ends.seq (Ends.region ?_))
 refine S.val hA (R.move rfl) rfl ?_; clear hA a; intro a hA
 refine S.call hA (R.callF Tryd.func69 rfl rfl rfl) rfl (lkind s p c (.slice v X.length cap) _ (hM.block (k := 0) rfl) (htab.mem hM hoff)) ?_; clear hA a
 rintro e w1 ⟨rfl, hb⟩
 replace hM := hM.callB hb; clear hb
 refine ⟨.int .i64 (kb s p), rfl, fun a hA => ?_⟩
 refine S.done ?_
 refine Ends.block (Ends.seq (Ends.region ?_))
 refine S.val hA (R.ff (R.eql rfl rfl) (by omega)) rfl ?_; clear hA a; intro a hA
 refine S.val hA (R.assign rfl) rfl ?_; clear hA a; intro a hA
 refine S.done ?_
 refine Ends.condF hA rfl ?_
 refine Ends.seq (Ends.region ?_)
 refine S.val hA (R.ff (R.eql rfl rfl) (by omega)) rfl ?_; clear hA a; intro a hA
 refine S.val hA (R.assign rfl) rfl ?_; clear hA a; intro a hA
 refine S.done ?_
 replace hA : St 26 [(0, _), (4, _), (14, _)] a := hA.sub ((.cons rfl (.cons rfl (.cons rfl .nil))))
 refine Ends.condF hA rfl ?_
 refine Ends.seq (Ends.region ?_)
 refine S.val hA (R.tt (R.eql rfl rfl) (by omega)) rfl ?_; clear hA a; intro a hA
 refine S.val hA (R.assign rfl) rfl ?_; clear hA a; intro a hA
 refine S.done ?_
 refine Ends.condT hA rfl ?_
 refine Ends.seq (Ends.region ?_)
 refine S.val hA (R.move rfl) rfl ?_; clear hA a; intro a hA
 refine S.call hA (R.callF Tryd.func71 rfl rfl rfl) rfl (lword_o s p c v cap X (by omega) (by omega) (by omega) h h2 _ (hM.hereN 2) (htab.mem hM hoff) (OffT.feetN htab hM hoff 2)) ?_; clear hA a
 rintro e w2 ⟨v', cap', rfl, hn⟩
 replace hM : Mem _ _ [pt c #[.string s, .int .i64 (((p + ltrs s p : Nat) : Int)), .slice v' (((X ++ [(⟨1, s.extract p (p + ltrs s p), 0, p⟩ : Tok)])).length) cap'] 75, own 77 4 (.slice v' (((X ++ [(⟨1, s.extract p (p + ltrs s p), 0, p⟩ : Tok)])).length) cap') (((X ++ [(⟨1, s.extract p (p + ltrs s p), 0, p⟩ : Tok)])).length) (tokv ((X ++ [(⟨1, s.extract p (p + ltrs s p), 0, p⟩ : Tok)])))] _ := hM.callL 2 hn; clear hn
 refine ⟨.int .i64 0, rfl, fun a hA => ?_⟩
 refine S.val hA (R.assign rfl) rfl ?_; clear hA a; intro a hA
 refine S.done ?_
 replace hA : St 26 [(2, _)] a := hA.sub ((.cons rfl .nil))
 refine Ends.ret1 Tryd.func52 Tryd.results52 hA rfl ?_
 replace hM := hM.firstN 2
 replace hM : Mem _ _ [pt c #[.string s, .int .i64 (((p + ltrs s p : Nat) : Int)), .slice v' (((X ++ [(⟨1, s.extract p (p + ltrs s p), 0, p⟩ : Tok)])).length) cap'] 75, own 77 4 (.slice v' (((X ++ [(⟨1, s.extract p (p + ltrs s p), 0, p⟩ : Tok)])).length) cap') (((X ++ [(⟨1, s.extract p (p + ltrs s p), 0, p⟩ : Tok)])).length) (tokv ((X ++ [(⟨1, s.extract p (p + ltrs s p), 0, p⟩ : Tok)])))] _ := hM
 exact ⟨v', cap', rfl, hM⟩
set_option maxRecDepth 100000 in
set_option maxHeartbeats 400000 in
theorem lone_2e (s : ByteArray) (p c : Nat) (v : Option Addr) (cap : Nat) (X : List Tok) (hp : p < s.size) (hX : X.length ≤ 1000000) (hsz : s.size ≤ 1000000) (hk : kb s p = 2) (N D2 E2 : Int) (hr : readI s (p : Int) = (N, D2, E2)) (h : E2 ≠ 0) (w : World) (hM : Mem w (feet [pt c #[.string s, .int .i64 ((p : Int)), .slice v X.length cap] 75, own 77 4 (.slice v X.length cap) X.length (tokv X)]) [pt c #[.string s, .int .i64 ((p : Int)), .slice v X.length cap] 75, own 77 4 (.slice v X.length cap) X.length (tokv X)] w) (htab : U8T w) (hoff : OffT (feet [pt c #[.string s, .int .i64 ((p : Int)), .slice v X.length cap] 75, own 77 4 (.slice v X.length cap) X.length (tokv X)])) :
  Calls Tryd.prog 52 #[.pointer (some ⟨c, 0, none⟩)] w fun e w' => e = .returned (.int .i64 E2) ∧ Mem w (feet [pt c #[.string s, .int .i64 ((p : Int)), .slice v X.length cap] 75, own 77 4 (.slice v X.length cap) X.length (tokv X)]) [pt c #[.string s, .int .i64 ((p : Int)), .slice v X.length cap] 75, own 77 4 (.slice v X.length cap) X.length (tokv X)] w' := by
 refine Calls.of_ends (vs := [.pointer (some ⟨c, 0, none⟩)]) Tryd.func52 rfl Tryd.ntmps52 rfl ?_
 intro a hA
 replace hA : St 26 [(0, _)] a := hA
 refine Ends.seq (Ends.region ?_)
 refine S.val hA (R.assign rfl) rfl ?_; clear hA a; intro a hA
 refine S.done ?_
 refine Ends.seq (Ends.seq (Ends.region ?_))
 refine S.val hA (R.move rfl) rfl ?_; clear hA a; intro a hA
 refine S.call hA (R.callF Tryd.func69 rfl rfl rfl) rfl (lkind s p c (.slice v X.length cap) _ (hM.block (k := 0) rfl) (htab.mem hM hoff)) ?_; clear hA a
 rintro e w1 ⟨rfl, hb⟩
 replace hM := hM.callB hb; clear hb
 refine ⟨.int .i64 (kb s p), rfl, fun a hA => ?_⟩
 refine S.done ?_
 refine Ends.block (Ends.seq (Ends.region ?_))
 refine S.val hA (R.ff (R.eql rfl rfl) (by omega)) rfl ?_; clear hA a; intro a hA
 refine S.val hA (R.assign rfl) rfl ?_; clear hA a; intro a hA
 refine S.done ?_
 refine Ends.condF hA rfl ?_
 refine Ends.seq (Ends.region ?_)
 refine S.val hA (R.ff (R.eql rfl rfl) (by omega)) rfl ?_; clear hA a; intro a hA
 refine S.val hA (R.assign rfl) rfl ?_; clear hA a; intro a hA
 refine S.done ?_
 replace hA : St 26 [(0, _), (4, _), (14, _)] a := hA.sub ((.cons rfl (.cons rfl (.cons rfl .nil))))
 refine Ends.condF hA rfl ?_
 refine Ends.seq (Ends.region ?_)
 refine S.val hA (R.ff (R.eql rfl rfl) (by omega)) rfl ?_; clear hA a; intro a hA
 refine S.val hA (R.assign rfl) rfl ?_; clear hA a; intro a hA
 refine S.done ?_
 refine Ends.condF hA rfl ?_
 refine Ends.seq (Ends.region ?_)
 refine S.val hA (R.tt (R.eql rfl rfl) (by omega)) rfl ?_; clear hA a; intro a hA
 refine S.val hA (R.assign rfl) rfl ?_; clear hA a; intro a hA
 refine S.done ?_
 replace hA : St 26 [(0, _), (22, _)] a := hA.sub ((.cons rfl (.cons rfl .nil)))
 refine Ends.condT hA rfl ?_
 refine Ends.seq (Ends.region ?_)
 refine S.val hA (R.move rfl) rfl ?_; clear hA a; intro a hA
 refine S.call hA (R.callF Tryd.func72 rfl rfl rfl) rfl (lnum_e s p c v cap X (by omega) (by omega) (by omega) N D2 E2 hr h _ (hM.hereN 2) (htab.mem hM hoff) (OffT.feetN htab hM hoff 2)) ?_; clear hA a
 rintro e w2 ⟨rfl, hn⟩
 replace hM : Mem _ _ [pt c #[.string s, .int .i64 ((p : Int)), .slice v X.length cap] 75, own 77 4 (.slice v X.length cap) X.length (tokv X)] _ := hM.callL 2 hn; clear hn
 refine ⟨.int .i64 E2, rfl, fun a hA => ?_⟩
 refine S.val hA (R.assign rfl) rfl ?_; clear hA a; intro a hA
 refine S.done ?_
 replace hA : St 26 [(2, _)] a := hA.sub ((.cons rfl .nil))
 refine Ends.ret1 Tryd.func52 Tryd.results52 hA rfl ?_
 replace hM := hM.firstN 2
 replace hM : Mem _ _ [pt c #[.string s, .int .i64 ((p : Int)), .slice v X.length cap] 75, own 77 4 (.slice v X.length cap) X.length (tokv X)] _ := hM
 exact ⟨rfl, hM⟩
set_option maxRecDepth 100000 in
set_option maxHeartbeats 400000 in
theorem lone_2s (s : ByteArray) (p c : Nat) (v : Option Addr) (cap : Nat) (X : List Tok) (hp : p < s.size) (hX : X.length ≤ 1000000) (hsz : s.size ≤ 1000000) (hk : kb s p = 2) (N : Int) (d : Nat) (hr : readI s (p : Int) = (N, ((p + d : Nat) : Int), 0)) (h2 : kb s (p + d) = 3) (w : World) (hM : Mem w (feet [pt c #[.string s, .int .i64 ((p : Int)), .slice v X.length cap] 75, own 77 4 (.slice v X.length cap) X.length (tokv X)]) [pt c #[.string s, .int .i64 ((p : Int)), .slice v X.length cap] 75, own 77 4 (.slice v X.length cap) X.length (tokv X)] w) (htab : U8T w) (hoff : OffT (feet [pt c #[.string s, .int .i64 ((p : Int)), .slice v X.length cap] 75, own 77 4 (.slice v X.length cap) X.length (tokv X)])) :
  Calls Tryd.prog 52 #[.pointer (some ⟨c, 0, none⟩)] w fun e w' => ∃ v' cap', e = .returned (.int .i64 2) ∧ Mem w (feet [pt c #[.string s, .int .i64 ((p : Int)), .slice v X.length cap] 75, own 77 4 (.slice v X.length cap) X.length (tokv X)]) [pt c #[.string s, .int .i64 (((p + d : Nat) : Int)), .slice v' (((X ++ [(⟨2, ⟨#[]⟩, N, p⟩ : Tok)])).length) cap'] 75, own 77 4 (.slice v' (((X ++ [(⟨2, ⟨#[]⟩, N, p⟩ : Tok)])).length) cap') (((X ++ [(⟨2, ⟨#[]⟩, N, p⟩ : Tok)])).length) (tokv ((X ++ [(⟨2, ⟨#[]⟩, N, p⟩ : Tok)])))] w' := by
 refine Calls.of_ends (vs := [.pointer (some ⟨c, 0, none⟩)]) Tryd.func52 rfl Tryd.ntmps52 rfl ?_
 intro a hA
 replace hA : St 26 [(0, _)] a := hA
 refine Ends.seq (Ends.region ?_)
 refine S.val hA (R.assign rfl) rfl ?_; clear hA a; intro a hA
 refine S.done ?_
 refine Ends.seq (Ends.seq (Ends.region ?_))
 refine S.val hA (R.move rfl) rfl ?_; clear hA a; intro a hA
 refine S.call hA (R.callF Tryd.func69 rfl rfl rfl) rfl (lkind s p c (.slice v X.length cap) _ (hM.block (k := 0) rfl) (htab.mem hM hoff)) ?_; clear hA a
 rintro e w1 ⟨rfl, hb⟩
 replace hM := hM.callB hb; clear hb
 refine ⟨.int .i64 (kb s p), rfl, fun a hA => ?_⟩
 refine S.done ?_
 refine Ends.block (Ends.seq (Ends.region ?_))
 refine S.val hA (R.ff (R.eql rfl rfl) (by omega)) rfl ?_; clear hA a; intro a hA
 refine S.val hA (R.assign rfl) rfl ?_; clear hA a; intro a hA
 refine S.done ?_
 refine Ends.condF hA rfl ?_
 refine Ends.seq (Ends.region ?_)
 refine S.val hA (R.ff (R.eql rfl rfl) (by omega)) rfl ?_; clear hA a; intro a hA
 refine S.val hA (R.assign rfl) rfl ?_; clear hA a; intro a hA
 refine S.done ?_
 replace hA : St 26 [(0, _), (4, _), (14, _)] a := hA.sub ((.cons rfl (.cons rfl (.cons rfl .nil))))
 refine Ends.condF hA rfl ?_
 refine Ends.seq (Ends.region ?_)
 refine S.val hA (R.ff (R.eql rfl rfl) (by omega)) rfl ?_; clear hA a; intro a hA
 refine S.val hA (R.assign rfl) rfl ?_; clear hA a; intro a hA
 refine S.done ?_
 refine Ends.condF hA rfl ?_
 refine Ends.seq (Ends.region ?_)
 refine S.val hA (R.tt (R.eql rfl rfl) (by omega)) rfl ?_; clear hA a; intro a hA
 refine S.val hA (R.assign rfl) rfl ?_; clear hA a; intro a hA
 refine S.done ?_
 replace hA : St 26 [(0, _), (22, _)] a := hA.sub ((.cons rfl (.cons rfl .nil)))
 refine Ends.condT hA rfl ?_
 refine Ends.seq (Ends.region ?_)
 refine S.val hA (R.move rfl) rfl ?_; clear hA a; intro a hA
 refine S.call hA (R.callF Tryd.func72 rfl rfl rfl) rfl (lnum_s s p c v cap X (by omega) (by omega) (by omega) N d hr h2 _ (hM.hereN 2) (htab.mem hM hoff) (OffT.feetN htab hM hoff 2)) ?_; clear hA a
 rintro e w2 ⟨v', cap', rfl, hn⟩
 replace hM : Mem _ _ [pt c #[.string s, .int .i64 (((p + d : Nat) : Int)), .slice v' (((X ++ [(⟨2, ⟨#[]⟩, N, p⟩ : Tok)])).length) cap'] 75, own 77 4 (.slice v' (((X ++ [(⟨2, ⟨#[]⟩, N, p⟩ : Tok)])).length) cap') (((X ++ [(⟨2, ⟨#[]⟩, N, p⟩ : Tok)])).length) (tokv ((X ++ [(⟨2, ⟨#[]⟩, N, p⟩ : Tok)])))] _ := hM.callL 2 hn; clear hn
 refine ⟨.int .i64 2, rfl, fun a hA => ?_⟩
 refine S.val hA (R.assign rfl) rfl ?_; clear hA a; intro a hA
 refine S.done ?_
 replace hA : St 26 [(2, _)] a := hA.sub ((.cons rfl .nil))
 refine Ends.ret1 Tryd.func52 Tryd.results52 hA rfl ?_
 replace hM := hM.firstN 2
 replace hM : Mem _ _ [pt c #[.string s, .int .i64 (((p + d : Nat) : Int)), .slice v' (((X ++ [(⟨2, ⟨#[]⟩, N, p⟩ : Tok)])).length) cap'] 75, own 77 4 (.slice v' (((X ++ [(⟨2, ⟨#[]⟩, N, p⟩ : Tok)])).length) cap') (((X ++ [(⟨2, ⟨#[]⟩, N, p⟩ : Tok)])).length) (tokv ((X ++ [(⟨2, ⟨#[]⟩, N, p⟩ : Tok)])))] _ := hM
 exact ⟨v', cap', rfl, hM⟩
set_option maxRecDepth 100000 in
set_option maxHeartbeats 400000 in
theorem lone_2o (s : ByteArray) (p c : Nat) (v : Option Addr) (cap : Nat) (X : List Tok) (hp : p < s.size) (hX : X.length ≤ 1000000) (hsz : s.size ≤ 1000000) (hk : kb s p = 2) (N : Int) (d : Nat) (hr : readI s (p : Int) = (N, ((p + d : Nat) : Int), 0)) (h2 : kb s (p + d) ≠ 3) (w : World) (hM : Mem w (feet [pt c #[.string s, .int .i64 ((p : Int)), .slice v X.length cap] 75, own 77 4 (.slice v X.length cap) X.length (tokv X)]) [pt c #[.string s, .int .i64 ((p : Int)), .slice v X.length cap] 75, own 77 4 (.slice v X.length cap) X.length (tokv X)] w) (htab : U8T w) (hoff : OffT (feet [pt c #[.string s, .int .i64 ((p : Int)), .slice v X.length cap] 75, own 77 4 (.slice v X.length cap) X.length (tokv X)])) :
  Calls Tryd.prog 52 #[.pointer (some ⟨c, 0, none⟩)] w fun e w' => ∃ v' cap', e = .returned (.int .i64 0) ∧ Mem w (feet [pt c #[.string s, .int .i64 ((p : Int)), .slice v X.length cap] 75, own 77 4 (.slice v X.length cap) X.length (tokv X)]) [pt c #[.string s, .int .i64 (((p + d : Nat) : Int)), .slice v' (((X ++ [(⟨2, ⟨#[]⟩, N, p⟩ : Tok)])).length) cap'] 75, own 77 4 (.slice v' (((X ++ [(⟨2, ⟨#[]⟩, N, p⟩ : Tok)])).length) cap') (((X ++ [(⟨2, ⟨#[]⟩, N, p⟩ : Tok)])).length) (tokv ((X ++ [(⟨2, ⟨#[]⟩, N, p⟩ : Tok)])))] w' := by
 refine Calls.of_ends (vs := [.pointer (some ⟨c, 0, none⟩)]) Tryd.func52 rfl Tryd.ntmps52 rfl ?_
 intro a hA
 replace hA : St 26 [(0, _)] a := hA
 refine Ends.seq (Ends.region ?_)
 refine S.val hA (R.assign rfl) rfl ?_; clear hA a; intro a hA
 refine S.done ?_
 refine Ends.seq (Ends.seq (Ends.region ?_))
 refine S.val hA (R.move rfl) rfl ?_; clear hA a; intro a hA
 refine S.call hA (R.callF Tryd.func69 rfl rfl rfl) rfl (lkind s p c (.slice v X.length cap) _ (hM.block (k := 0) rfl) (htab.mem hM hoff)) ?_; clear hA a
 rintro e w1 ⟨rfl, hb⟩
 replace hM := hM.callB hb; clear hb
 refine ⟨.int .i64 (kb s p), rfl, fun a hA => ?_⟩
 refine S.done ?_
 refine Ends.block (Ends.seq (Ends.region ?_))
 refine S.val hA (R.ff (R.eql rfl rfl) (by omega)) rfl ?_; clear hA a; intro a hA
 refine S.val hA (R.assign rfl) rfl ?_; clear hA a; intro a hA
 refine S.done ?_
 refine Ends.condF hA rfl ?_
 refine Ends.seq (Ends.region ?_)
 refine S.val hA (R.ff (R.eql rfl rfl) (by omega)) rfl ?_; clear hA a; intro a hA
 refine S.val hA (R.assign rfl) rfl ?_; clear hA a; intro a hA
 refine S.done ?_
 replace hA : St 26 [(0, _), (4, _), (14, _)] a := hA.sub ((.cons rfl (.cons rfl (.cons rfl .nil))))
 refine Ends.condF hA rfl ?_
 refine Ends.seq (Ends.region ?_)
 refine S.val hA (R.ff (R.eql rfl rfl) (by omega)) rfl ?_; clear hA a; intro a hA
 refine S.val hA (R.assign rfl) rfl ?_; clear hA a; intro a hA
 refine S.done ?_
 refine Ends.condF hA rfl ?_
 refine Ends.seq (Ends.region ?_)
 refine S.val hA (R.tt (R.eql rfl rfl) (by omega)) rfl ?_; clear hA a; intro a hA
 refine S.val hA (R.assign rfl) rfl ?_; clear hA a; intro a hA
 refine S.done ?_
 replace hA : St 26 [(0, _), (22, _)] a := hA.sub ((.cons rfl (.cons rfl .nil)))
 refine Ends.condT hA rfl ?_
 refine Ends.seq (Ends.region ?_)
 refine S.val hA (R.move rfl) rfl ?_; clear hA a; intro a hA
 refine S.call hA (R.callF Tryd.func72 rfl rfl rfl) rfl (lnum_o s p c v cap X (by omega) (by omega) (by omega) N d hr h2 _ (hM.hereN 2) (htab.mem hM hoff) (OffT.feetN htab hM hoff 2)) ?_; clear hA a
 rintro e w2 ⟨v', cap', rfl, hn⟩
 replace hM : Mem _ _ [pt c #[.string s, .int .i64 (((p + d : Nat) : Int)), .slice v' (((X ++ [(⟨2, ⟨#[]⟩, N, p⟩ : Tok)])).length) cap'] 75, own 77 4 (.slice v' (((X ++ [(⟨2, ⟨#[]⟩, N, p⟩ : Tok)])).length) cap') (((X ++ [(⟨2, ⟨#[]⟩, N, p⟩ : Tok)])).length) (tokv ((X ++ [(⟨2, ⟨#[]⟩, N, p⟩ : Tok)])))] _ := hM.callL 2 hn; clear hn
 refine ⟨.int .i64 0, rfl, fun a hA => ?_⟩
 refine S.val hA (R.assign rfl) rfl ?_; clear hA a; intro a hA
 refine S.done ?_
 replace hA : St 26 [(2, _)] a := hA.sub ((.cons rfl .nil))
 refine Ends.ret1 Tryd.func52 Tryd.results52 hA rfl ?_
 replace hM := hM.firstN 2
 replace hM : Mem _ _ [pt c #[.string s, .int .i64 (((p + d : Nat) : Int)), .slice v' (((X ++ [(⟨2, ⟨#[]⟩, N, p⟩ : Tok)])).length) cap'] 75, own 77 4 (.slice v' (((X ++ [(⟨2, ⟨#[]⟩, N, p⟩ : Tok)])).length) cap') (((X ++ [(⟨2, ⟨#[]⟩, N, p⟩ : Tok)])).length) (tokv ((X ++ [(⟨2, ⟨#[]⟩, N, p⟩ : Tok)])))] _ := hM
 exact ⟨v', cap', rfl, hM⟩
theorem lone_any (s : ByteArray) (p c : Nat) (v : Option Addr) (cap : Nat) (X : List Tok) (hp : p < s.size) (hX : X.length ≤ 1000000) (hsz : s.size ≤ 1000000) (w : World) (hM : Mem w (feet [pt c #[.string s, .int .i64 ((p : Int)), .slice v X.length cap] 75, own 77 4 (.slice v X.length cap) X.length (tokv X)]) [pt c #[.string s, .int .i64 ((p : Int)), .slice v X.length cap] 75, own 77 4 (.slice v X.length cap) X.length (tokv X)] w) (htab : U8T w) (hoff : OffT (feet [pt c #[.string s, .int .i64 ((p : Int)), .slice v X.length cap] 75, own 77 4 (.slice v X.length cap) X.length (tokv X)])) : Calls Tryd.prog 52 #[.pointer (some ⟨c, 0, none⟩)] w fun e w' => ∃ v' cap', e = .returned (.int .i64 (lst s p).1) ∧ Mem w (feet [pt c #[.string s, .int .i64 ((p : Int)), .slice v X.length cap] 75, own 77 4 (.slice v X.length cap) X.length (tokv X)]) [pt c #[.string s, .int .i64 (((lst s p).2.1 : Int)), .slice v' (((X ++ (lst s p).2.2)).length) cap'] 75, own 77 4 (.slice v' (((X ++ (lst s p).2.2)).length) cap') (((X ++ (lst s p).2.2)).length) (tokv ((X ++ (lst s p).2.2)))] w' := by
  rcases kb_rng s p with hk | hk | hk | hk | hk
  · rw [lst_0 hk, List.append_nil]
    exact (lone_0 s p c v cap X hp hX hsz hk w hM htab hoff).mono fun e w' h => ⟨v, cap, h⟩
  · rw [lst_1 hk, List.append_nil]
    exact (lone_1 s p c v cap X hp hX hsz hk w hM htab hoff).mono fun e w' h => ⟨v, cap, h⟩
  · have hr := readI_at hp hk
    rw [lst_2 hk]
    by_cases h1 : 1 < dgs s p ∧ byt s p = 48
    · rw [if_pos h1] at hr ⊢
      rw [List.append_nil]
      exact (lone_2e s p c v cap X hp hX hsz hk 0 0 4 hr (by decide) w hM htab hoff).mono fun e w' h => ⟨v, cap, h⟩
    · rw [if_neg h1] at hr ⊢
      by_cases h2 : 18 < dgs s p
      · rw [if_pos h2] at hr ⊢
        rw [List.append_nil]
        exact (lone_2e s p c v cap X hp hX hsz hk 0 0 5 hr (by decide) w hM htab hoff).mono fun e w' h => ⟨v, cap, h⟩
      · rw [if_neg h2] at hr ⊢
        by_cases h3 : kb s (p + dgs s p) = 3
        · simp only [if_pos h3]
          exact lone_2s s p c v cap X hp hX hsz hk _ _ hr h3 w hM htab hoff
        · simp only [if_neg h3]
          exact lone_2o s p c v cap X hp hX hsz hk _ _ hr h3 w hM htab hoff
  · rw [lst_3 hk]
    by_cases h1 : 16 < ltrs s p
    · rw [if_pos h1, List.append_nil]
      exact (lone_3b s p c v cap X hp hX hsz hk h1 w hM htab hoff).mono fun e w' h => ⟨v, cap, h⟩
    · rw [if_neg h1]
      by_cases h3 : kb s (p + ltrs s p) = 2
      · simp only [if_pos h3]
        exact lone_3s s p c v cap X hp hX hsz hk h1 h3 w hM htab hoff
      · simp only [if_neg h3]
        exact lone_3o s p c v cap X hp hX hsz hk h1 h3 w hM htab hoff
  · rw [lst_4 hk, List.append_nil]
    exact (lone_4 s p c v cap X hp hX hsz hk w hM htab hoff).mono fun e w' h => ⟨v, cap, h⟩
end Go.Proofs.YtakfcekfmdjklaaDoor
namespace Go.Proofs.YtakfcekfmdjklaaDoor
open Go.RowKit
set_option maxRecDepth 100000 in
set_option maxHeartbeats 400000 in
theorem scan_any (s : ByteArray) (hsz : s.size ≤ 9223372036854775807) (w : World) (htab : U8T w) :
  Calls Tryd.prog 33 #[.string s] w fun e w' => ∃ a cap, e = .returned (.tuple #[.slice a (scan s).1.length cap, .int .i64 (scan s).2.1, .int .i64 (scan s).2.2]) ∧ Mem w nof [own 77 4 (.slice a (scan s).1.length cap) (scan s).1.length (tokv (scan s).1)] w' := by
 have hM := Mem.start w
 refine Calls.of_ends (vs := [.string s]) Tryd.func33 rfl Tryd.ntmps33 rfl ?_
 intro a hA
 replace hA : St 38 [(0, _)] a := hA
 refine Ends.seq (Ends.region ?_)
 refine S.val hA (R.assign rfl) rfl ?_; clear hA a; intro a hA
 refine S.val hA (R.assign rfl) rfl ?_; clear hA a; intro a hA
 refine S.val hA (R.assign rfl) rfl ?_; clear hA a; intro a hA
 refine S.done ?_
 refine Ends.seq (Ends.seq (Ends.region ?_))
 refine S.val hA (R.move rfl) rfl ?_; clear hA a; intro a hA
 refine S.val hA (R.lenStr Tryd.underlying9 rfl rfl) rfl ?_; clear hA a; intro a hA
 refine S.val hA (R.gtr rfl rfl) rfl ?_; clear hA a; intro a hA
 refine S.done ?_
 replace hA : St 38 [(0, _), (9, _)] a := hA.sub ((.cons rfl (.cons rfl .nil)))
 refine Ends.ite hA rfl (fun hc1 => ?_) (fun hc1 => ?_)
 ·
  refine Ends.seq (Ends.region ?_)
  refine S.val hA (R.assign rfl) rfl ?_; clear hA a; intro a hA
  refine S.val hA (R.assign rfl) rfl ?_; clear hA a; intro a hA
  refine S.val hA (R.assign rfl) rfl ?_; clear hA a; intro a hA
  refine S.done ?_
  refine Ends.ret3 Tryd.func33 Tryd.results33 hA rfl rfl rfl ?_
  have e0 : scan s = ([], 0, 5) := by unfold scan; rw [if_pos (by omega)]
  rw [e0]
  exact ⟨none, 0, rfl, hM.nilL.ownNil 77 4⟩
 ·
  refine Ends.skip (Ends.seq (Ends.region ?_))
  refine S.val hA (R.move rfl) rfl ?_; clear hA a; intro a hA
  refine S.val hA (R.build (cells := #[.string s, .int .i64 0, .slice none 0 0]) rfl (by kernel_rfl)) rfl ?_; clear hA a; intro a hA
  refine S.box hA hM rfl rfl ?_; clear hA hM a; intro b2 w1 hb3 hM a hA
  replace hM : Mem _ _ [pt b2 #[.string s, .int .i64 0, .slice none 0 0] 75] _ := hM
  refine S.val hA (R.assign rfl) rfl ?_; clear hA a; intro a hA
  refine S.done ?_
  replace hA : St 38 [(0, _), (5, _)] a := hA.sub ((.cons rfl (.cons rfl .nil)))
  refine Ends.seq (Ends.block ?_)
  replace hM := hM.ownNil 77 4
  replace hM := hM.front (k := 1) rfl
  replace hM : Mem _ _ [pt b2 #[.string s, .int .i64 (((0 : Nat) : Int)), .slice none ((([] : List Tok)).length) 0] 75, own 77 4 (.slice none ((([] : List Tok)).length) 0) ((([] : List Tok)).length) (tokv (([] : List Tok)))] _ := hM
  have hbig : ¬ 65536 < s.size := by omega
  refine Ends.loop (σ := Nat × Nat × List Tok × Option Addr × Nat) (fun (p, f, X, v, cap) (a : Act) (wv : World) => St 38 [(0, .string s), (5, .pointer (some ⟨b2, 0, none⟩))] a ∧ Mem w nof [pt b2 #[.string s, .int .i64 ((p : Int)), .slice v X.length cap] 75, own 77 4 (.slice v X.length cap) X.length (tokv X)] wv ∧ (s.size ≤ p + f) ∧ (scF s f p X = scan s) ∧ (X.length ≤ p) ∧ (p ≤ s.size)) (fun (p, f, X, v, cap) => f) ((0, s.size, [], none, 0)) ⟨hA.sub ((.cons rfl (.cons rfl .nil))), hM, (by omega), (by unfold scan; rw [if_neg hbig]), (Nat.le_refl _), (Nat.zero_le _)⟩ ?_
  clear hA hM a
  rintro ⟨p, f, X, v, cap⟩ a w2 ⟨hA, hM, hf, hsc, hX, hps⟩ hNext
  refine Ends.seq (Ends.seq (Ends.region ?_))
  refine S.val hA (R.move rfl) rfl ?_; clear hA a; intro a hA
  refine S.val hA (R.nilCheck rfl) rfl ?_; clear hA a; intro a hA
  refine S.val hA (R.fieldAddr (q := 1) fi75_1 rfl rfl rfl) rfl ?_; clear hA a; intro a hA
  refine S.val hA (R.load sz3 rfl (hM.cell (k := 0) rfl rfl)) rfl ?_; clear hA a; intro a hA
  refine S.val hA (R.move rfl) rfl ?_; clear hA a; intro a hA
  refine S.val hA (R.lenStr Tryd.underlying9 rfl rfl) rfl ?_; clear hA a; intro a hA
  refine S.val hA (R.lss rfl rfl) rfl ?_; clear hA a; intro a hA
  refine S.done ?_
  replace hA : St 38 [(0, _), (5, _), (19, _)] a := hA.sub ((.cons rfl (.cons rfl (.cons rfl .nil))))
  refine Ends.ite hA rfl (fun hc4 => ?_) (fun hc4 => ?_)
  ·
   have hp : p < s.size := by omega
   refine Ends.skip (Ends.block (Ends.seq (Ends.region ?_)))
   refine S.val hA (R.move rfl) rfl ?_; clear hA a; intro a hA
   refine S.call hA (R.callF Tryd.func52 rfl rfl rfl) rfl (lone_any s p b2 v cap X hp (by omega) (by omega) _ (hM.hereN 2) (htab.mem hM OffT.nof) (OffT.feetN htab hM OffT.nof 2)) ?_; clear hA a
   rintro e w3 ⟨v5, c6, rfl, hn⟩
   replace hM : Mem _ _ [pt b2 #[.string s, .int .i64 (((lst s p).2.1 : Int)), .slice v5 (((X ++ (lst s p).2.2)).length) c6] 75, own 77 4 (.slice v5 (((X ++ (lst s p).2.2)).length) c6) (((X ++ (lst s p).2.2)).length) (tokv ((X ++ (lst s p).2.2)))] _ := hM.callL 2 hn; clear hn
   refine ⟨.int .i64 ((lst s p).1), rfl, fun a hA => ?_⟩
   refine S.val hA (R.assign rfl) rfl ?_; clear hA a; intro a hA
   refine S.done ?_
   refine Ends.seq (Ends.region ?_)
   refine S.val hA (R.move rfl) rfl ?_; clear hA a; intro a hA
   refine S.val hA (R.neq rfl rfl) rfl ?_; clear hA a; intro a hA
   refine S.done ?_
   replace hA : St 38 [(0, _), (5, _), (6, _), (23, _)] a := hA.sub ((.cons rfl (.cons rfl (.cons rfl (.cons rfl .nil)))))
   refine Ends.ite hA rfl (fun hc7 => ?_) (fun hc7 => ?_)
   ·
    refine Ends.seq ?_
    refine Ends.drawn (Mem w nof [pt b2 #[.string s, .int .i64 (((lst s p).2.1 : Int)), .slice v5 (((X ++ (lst s p).2.2)).length) c6] 75, own 77 4 (.slice v5 (((X ++ (lst s p).2.2)).length) c6) (((X ++ (lst s p).2.2)).length) (tokv ((X ++ (lst s p).2.2)))]) (.cons (0, true) (.cons (1, true) (.cons (2, true) (.cons (3, true) (.cons (4, true) (.cons (5, true) (.cons (6, true) (.cons (7, true) .nil)))))))) 8 mixed (by kernel_rfl) (by kernel_rfl) (by kernel_rfl) hM.drew ?_
    replace hM := hM.drew
    refine D.valF hA rfl (fun _ => R.move rfl) rfl ?_; clear hA a; intro a hA
    refine D.valF hA rfl (fun _ => R.nilCheck rfl) rfl ?_; clear hA a; intro a hA
    refine D.valF hA rfl (fun _ => R.fieldAddr (q := 1) fi75_1 rfl rfl rfl) rfl ?_; clear hA a; intro a hA
    refine D.val hA rfl (by kernel_rfl) (fun _ hM => R.load sz3 rfl (hM.cell (k := 0) rfl rfl)) rfl ?_; clear hA a; intro a hA
    refine D.valF hA rfl (fun _ => R.move rfl) rfl ?_; clear hA a; intro a hA
    refine D.valF hA rfl (fun _ => R.assign rfl) rfl ?_; clear hA a; intro a hA
    refine D.valF hA rfl (fun _ => R.assign rfl) rfl ?_; clear hA a; intro a hA
    refine D.valF hA rfl (fun _ => R.assign rfl) rfl ?_; clear hA a; intro a hA
    refine D.done ?_
    replace hA : St 38 [(0, _), (2, _), (3, _), (4, _), (5, _)] a := hA.sub ((.cons rfl (.cons rfl (.cons rfl (.cons rfl (.cons rfl .nil))))))
    refine Ends.ret3 Tryd.func33 Tryd.results33 hA rfl rfl rfl ?_
    have he := scF_err (X := X) (f := f) hp (by omega) hc7
    have e0 : scan s = ([], ((lst s p).2.1 : Int), (lst s p).1) := hsc.symm.trans he
    rw [e0]
    exact ⟨none, 0, rfl, hM.nilL.ownNil 77 4⟩
   ·
    refine Ends.skip (Ends.inBlock ?_)
    have he := Classical.byContradiction hc7
    have hgo := scF_go (X := X) (f := f) hp (by omega) he
    have hbd := lst_bd hp
    have hlt := hbd.2.2.1 he
    have hln := hbd.2.2.2
    exact hNext (((lst s p).2.1, f - 1, X ++ (lst s p).2.2, v5, c6)) _ _ ((by show f - 1 < f; omega)) ⟨hA.sub ((.cons rfl (.cons rfl .nil))), hM, (by omega), (hgo.symm.trans hsc), (by rw [List.length_append]; omega), (by omega)⟩
  ·
   refine Ends.exit rfl ?_
   refine Ends.seq (Ends.region ?_)
   refine S.val hA (R.move rfl) rfl ?_; clear hA a; intro a hA
   refine S.val hA (R.nilCheck rfl) rfl ?_; clear hA a; intro a hA
   refine S.val hA (R.fieldAddr (q := 2) fi75_2 rfl rfl rfl) rfl ?_; clear hA a; intro a hA
   refine S.val hA (R.load sz48 rfl (hM.cell (k := 0) rfl rfl)) rfl ?_; clear hA a; intro a hA
   refine S.val hA (R.move rfl) rfl ?_; clear hA a; intro a hA
   refine S.val hA (R.lenStr Tryd.underlying9 rfl rfl) rfl ?_; clear hA a; intro a hA
   refine S.val hA (R.build (cells := #[.int .i64 3, .string (⟨#[]⟩), .int .i64 0, .int .i64 ((s.size : Int))]) rfl (by kernel_rfl)) rfl ?_; clear hA a; intro a hA
   refine S.buildSl (cells := #[.int .i64 3, .string (⟨#[]⟩), .int .i64 0, .int .i64 ((s.size : Int))]) hA hM Tryd.underlying48 info77 rfl rfl rfl rfl (by kernel_rfl) rfl ?_; clear hA hM a; intro b8 w4 hb9 hM a hA
   replace hM : Mem _ _ [pt b8 #[.int .i64 3, .string (⟨#[]⟩), .int .i64 0, .int .i64 ((s.size : Int))] 77, pt b2 #[.string s, .int .i64 ((p : Int)), .slice v X.length cap] 75, own 77 4 (.slice v X.length cap) X.length (tokv X)] _ := hM
   refine S.append (k := 2) (k2 := 0) hA hM rfl rfl Tryd.underlying48 info77 rfl rfl rfl rfl rfl rfl rfl rfl rfl (by first | omega | (show (_ + 1) * 40 ≤ 140737488355328; omega) | (unfold maxLen; omega)) (by first | omega | (show (_ + 1) * 40 ≤ 140737488355328; omega) | (unfold maxLen; omega)) rfl ?_; clear hA hM a; intro a10 c11 w5 hM a hA
   replace hM : Mem _ _ [pt b8 #[.int .i64 3, .string (⟨#[]⟩), .int .i64 0, .int .i64 ((s.size : Int))] 77, pt b2 #[.string s, .int .i64 ((p : Int)), .slice v X.length cap] 75, own 77 4 (.slice a10 (X.length + 1) c11) (X.length + 1) (tokv X ++ [.int .i64 3, .string (⟨#[]⟩), .int .i64 0, .int .i64 ((s.size : Int))])] _ := hM
   have hl12 : X.length + 1 = (X ++ [(⟨3, ⟨#[]⟩, 0, (s.size : Int)⟩ : Tok)]).length := by simp
   rw [hl12, show tokv X ++ [.int .i64 3, .string (⟨#[]⟩), .int .i64 0, .int .i64 ((s.size : Int))] = tokv (X ++ [(⟨3, ⟨#[]⟩, 0, (s.size : Int)⟩ : Tok)]) from tokv_app X (⟨3, ⟨#[]⟩, 0, (s.size : Int)⟩ : Tok)] at hM; rw [hl12] at hA
   clear hl12
   replace hM := hM.drop 0
   replace hM : Mem _ _ [pt b2 #[.string s, .int .i64 ((p : Int)), .slice v X.length cap] 75, own 77 4 (.slice a10 (((X ++ [(⟨3, ⟨#[]⟩, 0, (s.size : Int)⟩ : Tok)])).length) c11) (((X ++ [(⟨3, ⟨#[]⟩, 0, (s.size : Int)⟩ : Tok)])).length) (tokv ((X ++ [(⟨3, ⟨#[]⟩, 0, (s.size : Int)⟩ : Tok)])))] _ := hM
   refine S.val hA (R.assign rfl) rfl ?_; clear hA a; intro a hA
   refine S.val hA (R.assign rfl) rfl ?_; clear hA a; intro a hA
   refine S.val hA (R.assign rfl) rfl ?_; clear hA a; intro a hA
   refine S.done ?_
   replace hA : St 38 [(2, _), (3, _), (4, _)] a := hA.sub ((.cons rfl (.cons rfl (.cons rfl .nil))))
   refine Ends.ret3 Tryd.func33 Tryd.results33 hA rfl rfl rfl ?_
   replace hM := hM.front (k := 1) rfl
   replace hM : Mem _ _ [own 77 4 (.slice a10 (((X ++ [(⟨3, ⟨#[]⟩, 0, (s.size : Int)⟩ : Tok)])).length) c11) (((X ++ [(⟨3, ⟨#[]⟩, 0, (s.size : Int)⟩ : Tok)])).length) (tokv ((X ++ [(⟨3, ⟨#[]⟩, 0, (s.size : Int)⟩ : Tok)]))), pt b2 #[.string s, .int .i64 ((p : Int)), .slice v X.length cap] 75] _ := hM
   replace hM := hM.firstN 1
   replace hM : Mem _ _ [own 77 4 (.slice a10 (((X ++ [(⟨3, ⟨#[]⟩, 0, (s.size : Int)⟩ : Tok)])).length) c11) (((X ++ [(⟨3, ⟨#[]⟩, 0, (s.size : Int)⟩ : Tok)])).length) (tokv ((X ++ [(⟨3, ⟨#[]⟩, 0, (s.size : Int)⟩ : Tok)])))] _ := hM
   have e0 : scan s = (X ++ [tend s], 0, 0) := hsc.symm.trans (scF_end (by omega) _ _)
   rw [e0]
   exact ⟨a10, c11, rfl, hM⟩
end Go.Proofs.YtakfcekfmdjklaaDoor
namespace Go.Proofs.YtakfcekfmdjklaaDoor
open Go.RowKit
section
variable {w0 w w' : World} {F : Nat → Prop} {L : List Ck}
theorem Mem.tokRow {k g cap i : Nat} {e : TypeId} {X : List Tok} (hM : Mem w0 F L w) (hk : ith L k = some (own e 4 (.slice (some ⟨g, 0, none⟩) X.length cap) X.length (tokv X))) (hi : i < X.length) : w.rangeAt g (i * 4) [.int .i64 (X.getD i tz).k, .string (X.getD i tz).x, .int .i64 (X.getD i tz).n, .int .i64 (X.getD i tz).a] := by
  obtain ⟨h0, h1, h2, h3⟩ := tokv_get X i hi
  intro j v hj
  refine hM.ownCell hk (i := i * 4 + j) ?_
  match j, hj with
  | 0, hj => rw [← hj]; exact h0
  | 1, hj => rw [← hj]; exact h1
  | 2, hj => rw [← hj]; exact h2
  | 3, hj => rw [← hj]; exact h3
  | j + 4, hj => cases hj
end
theorem scF_len (s : ByteArray) : ∀ f p X, X.length + (s.size - p) ≤ 900000 → X.length ≤ p → p ≤ s.size → s.size ≤ 900000 → (scF s f p X).1.length ≤ 1000000
  | 0, p, X, h, _, _, _ => by simp [scF]; omega
  | f + 1, p, X, h, h2, h3, h4 => by
    rw [scF]
    split
    · rename_i hp
      have hbd := lst_bd hp
      split
      · simp
      · rename_i he
        have he' : (lst s p).1 = 0 := Classical.byContradiction he
        have := hbd.2.2.1 he'
        exact scF_len s f _ _ (by rw [List.length_append]; omega) (by rw [List.length_append]; omega) hbd.2.1 h4
    · simp; omega
theorem scan_len (s : ByteArray) : (scan s).1.length ≤ 1000000 := by
  unfold scan
  split
  · simp
  · exact scF_len s _ _ _ (by simp; omega) (by simp) (by omega) (by omega)
end Go.Proofs.YtakfcekfmdjklaaDoor
