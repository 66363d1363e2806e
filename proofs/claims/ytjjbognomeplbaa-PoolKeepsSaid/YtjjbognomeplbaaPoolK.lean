/-
  The law PoolKeeps.
-/
import Derived.Test.YtjjbognomeplbaaPoolK1
namespace Go.Proofs.Ytjjbognomeplbaa
open Go.RowKit

set_option maxRecDepth 100000 in
set_option maxHeartbeats 400000 in
theorem poolKeeps_bad (slot b : Int) (hj : ¬ (0 ≤ slot ∧ slot < 5)) (ad : Option Addr) (nr cap0 : Nat) (ol : List Int) (hln : nr = ol.length) (w : World) (hsl : IntSl w (.slice ad nr cap0) ol) :
    Calls Try.prog 9 #[.int .i64 slot, .slice ad nr cap0, .int .i64 b] w fun e w' => e = .returned (.bool true) ∧ Below w.heap.size w w' := by
  have hM := Mem.start w
  refine Calls.of_ends (vs := [.int .i64 slot, .slice ad nr cap0, .int .i64 b]) Try.func9 rfl Try.ntmps9 rfl ?_
  intro a hA
  replace hA : St 124 [(0, _), (1, _), (2, _)] a := hA
  refine Ends.seq ?_
  refine Ends.region ?_
  refine S.val hA (R.assign rfl) rfl ?_; clear hA a; intro a hA
  refine S.done ?_
  replace hA : St 124 [(0, _), (1, _), (2, _), (6, _)] a := hA.sub ((.cons rfl (.cons rfl (.cons rfl (.cons rfl .nil)))))
  refine Ends.seq ?_
  refine Ends.region ?_
  refine S.call hA (R.callF Try.func42 rfl rfl rfl) rfl (pfresh_any 5 1 (by first | omega | decide | (simp; done) | (simp; omega)) (by first | omega | decide | (simp; done) | (simp; omega)) _) ?_; clear hA a
  rintro e w1 ⟨q1, m2, c3, nb4, ob5, op6, rfl, hm2c3, hn⟩
  replace hM : Mem _ _ [pt q1 #[.pointer (some ⟨m2, 0, none⟩), .int .i64 3, .slice (some ⟨nb4, 0, none⟩) 5 5, .slice (some ⟨ob5, 0, none⟩) 1 1] 128, pt nb4 ((madeCells #[.slice none 0 0, .int .i64 0] (5 * 2))) 77, pt ob5 #[.slice none 0 0] 43, memO m2 c3 (linkL (List.replicate (3 + (5 + 1) : Int).toNat 0) 3 5 (5 : Int).toNat) (0 + 1 + 5) op6] _ := hM.call hn; clear hn
  refine ⟨.tuple #[.pointer (some ⟨q1, 0, none⟩), .pointer (some ⟨m2, 0, none⟩), .bool true], rfl, fun a hA => ?_⟩
  refine S.val hA (R.move rfl) rfl ?_; clear hA a; intro a hA
  refine S.val hA (R.extract (v := .pointer (some ⟨q1, 0, none⟩)) rfl rfl) rfl ?_; clear hA a; intro a hA
  refine S.val hA (R.extract (v := .pointer (some ⟨m2, 0, none⟩)) rfl rfl) rfl ?_; clear hA a; intro a hA
  refine S.val hA (R.extract (v := .bool true) rfl rfl) rfl ?_; clear hA a; intro a hA
  refine S.val hA (R.assign rfl) rfl ?_; clear hA a; intro a hA
  refine S.val hA (R.assign rfl) rfl ?_; clear hA a; intro a hA
  refine S.val hA (R.assign rfl) rfl ?_; clear hA a; intro a hA
  refine S.done ?_
  replace hA : St 124 [(0, _), (1, _), (2, _), (6, _), (7, _), (9, _)] a := hA.sub ((.cons rfl (.cons rfl (.cons rfl (.cons rfl (.cons rfl (.cons rfl .nil)))))))
  refine Ends.seq ?_
  rw [made10] at hM
  replace hM : Mem _ _ [pt q1 #[.pointer (some ⟨m2, 0, none⟩), .int .i64 3, .slice (some ⟨nb4, 0, none⟩) 5 5, .slice (some ⟨ob5, 0, none⟩) 1 1] 128, pt nb4 #[.slice none 0 0, .int .i64 0, .slice none 0 0, .int .i64 0, .slice none 0 0, .int .i64 0, .slice none 0 0, .int .i64 0, .slice none 0 0, .int .i64 0] 77, pt ob5 #[.slice none 0 0] 43, memO m2 c3 (linkL (List.replicate (3 + (5 + 1) : Int).toNat 0) 3 5 (5 : Int).toNat) (0 + 1 + 5) op6] _ := hM
  refine Ends.region ?_
  refine S.buildSl0 hA hM Try.underlying43 info3 rfl ?_; clear hA hM a; intro b7 w2 hb8 hM a hA
  replace hM : Mem _ _ [pt b7 #[] 3, pt q1 #[.pointer (some ⟨m2, 0, none⟩), .int .i64 3, .slice (some ⟨nb4, 0, none⟩) 5 5, .slice (some ⟨ob5, 0, none⟩) 1 1] 128, pt nb4 #[.slice none 0 0, .int .i64 0, .slice none 0 0, .int .i64 0, .slice none 0 0, .int .i64 0, .slice none 0 0, .int .i64 0, .slice none 0 0, .int .i64 0] 77, pt ob5 #[.slice none 0 0] 43, memO m2 c3 (linkL (List.replicate (3 + (5 + 1) : Int).toNat 0) 3 5 (5 : Int).toNat) (0 + 1 + 5) op6] _ := hM
  replace hM := hM.ownPt (cap := 0) (n := 0) (sz := 1) (xs := []) rfl (by decide) (by decide) rfl
  replace hM : Mem _ _ [own 3 1 (.slice (some ⟨b7, 0, none⟩) 0 0) 0 ((([] : List Int)).map (Value.int .i64)), pt q1 #[.pointer (some ⟨m2, 0, none⟩), .int .i64 3, .slice (some ⟨nb4, 0, none⟩) 5 5, .slice (some ⟨ob5, 0, none⟩) 1 1] 128, pt nb4 #[.slice none 0 0, .int .i64 0, .slice none 0 0, .int .i64 0, .slice none 0 0, .int .i64 0, .slice none 0 0, .int .i64 0, .slice none 0 0, .int .i64 0] 77, pt ob5 #[.slice none 0 0] 43, memO m2 c3 (linkL (List.replicate (3 + (5 + 1) : Int).toNat 0) 3 5 (5 : Int).toNat) (0 + 1 + 5) op6] _ := hM
  refine S.val hA (R.move rfl) rfl ?_; clear hA a; intro a hA
  refine S.val hA (R.move rfl) rfl ?_; clear hA a; intro a hA
  refine S.val hA (R.lenS Try.underlying43 rfl rfl) rfl ?_; clear hA a; intro a hA
  refine S.val hA (R.min rfl rfl) rfl ?_; clear hA a; intro a hA
  have hcl0 := hsl.len
  obtain ⟨X, hX, hXl⟩ : ∃ X : List Int, IntSl w (.slice ad X.length cap0) X ∧ (X.length : Int) = min (nr : Int) 70 := by
    have hcl := hsl.len
    refine ⟨ol.take (min nr 70), ?_, by rw [List.length_take]; omega⟩
    have := hsl.cut (min nr 70) (by omega)
    rwa [show (ol.take (min nr 70)).length = min nr 70 by rw [List.length_take]; omega]
  refine S.val hA (R.sliceH (h := X.length) Try.underlying43 info3 rfl rfl (by first | omega | (simp; done)) (by first | omega | (simp; done))) rfl ?_; clear hA a; intro a hA
  refine S.appendI (k := 0) hA hM rfl (hX.mem hM) Try.underlying43 info3 rfl rfl rfl rfl rfl rfl (by show 0 + X.length ≤ 9223372036854775807; omega) (by show (0 + X.length) * 8 ≤ _; omega) rfl ?_; clear hA hM a; intro a9 c10 w3 hM a hA
  rw [Nat.zero_add, List.map_nil, List.nil_append] at hM; rw [Nat.zero_add] at hA
  replace hM : Mem _ _ [own 3 1 (.slice a9 X.length c10) X.length (X.map (Value.int .i64)), pt q1 #[.pointer (some ⟨m2, 0, none⟩), .int .i64 3, .slice (some ⟨nb4, 0, none⟩) 5 5, .slice (some ⟨ob5, 0, none⟩) 1 1] 128, pt nb4 #[.slice none 0 0, .int .i64 0, .slice none 0 0, .int .i64 0, .slice none 0 0, .int .i64 0, .slice none 0 0, .int .i64 0, .slice none 0 0, .int .i64 0] 77, pt ob5 #[.slice none 0 0] 43, memO m2 c3 (linkL (List.replicate (3 + (5 + 1) : Int).toNat 0) 3 5 (5 : Int).toNat) (0 + 1 + 5) op6] _ := hM
  refine S.val hA (R.assign rfl) rfl ?_; clear hA a; intro a hA
  refine S.done ?_
  replace hA : St 124 [(0, _), (1, _), (2, _), (6, _), (7, _), (9, _)] a := hA.sub ((.cons rfl (.cons rfl (.cons rfl (.cons rfl (.cons rfl (.cons rfl .nil)))))))
  refine Ends.seq ?_
  refine Ends.seq ?_
  refine Ends.region ?_
  refine S.call hA (R.callF Try.func43 rfl rfl rfl) rfl (ppools_any _) ?_; clear hA a
  rintro e w4 ⟨rfl, hb⟩
  replace hM := hM.callB hb; clear hb
  refine ⟨.bool true, rfl, fun a hA => ?_⟩
  refine S.val hA (R.not rfl) rfl ?_; clear hA a; intro a hA
  refine S.val hA (R.move rfl) rfl ?_; clear hA a; intro a hA
  refine S.valg (dj := 28) hA (by kernel_rfl) rfl (R.move rfl) rfl ?_; clear hA a; intro a hA
  refine S.valg (dj := 28) hA (by kernel_rfl) rfl (R.not rfl) rfl ?_; clear hA a; intro a hA
  refine S.val hA (R.pickF rfl rfl) rfl ?_; clear hA a; intro a hA
  refine S.done ?_
  replace hA : St 124 [(0, _), (1, _), (2, _), (6, _), (7, _), (31, _)] a := hA.sub ((.cons rfl (.cons rfl (.cons rfl (.cons rfl (.cons rfl (.cons rfl .nil)))))))
  refine Ends.condF hA rfl ?_
  refine Ends.skip ?_
  refine Ends.seq ?_
  refine Ends.region ?_
  refine S.buildSl0 hA hM Try.underlying43 info3 rfl ?_; clear hA hM a; intro b11 w5 hb12 hM a hA
  replace hM : Mem _ _ [pt b11 #[] 3, own 3 1 (.slice a9 X.length c10) X.length (X.map (Value.int .i64)), pt q1 #[.pointer (some ⟨m2, 0, none⟩), .int .i64 3, .slice (some ⟨nb4, 0, none⟩) 5 5, .slice (some ⟨ob5, 0, none⟩) 1 1] 128, pt nb4 #[.slice none 0 0, .int .i64 0, .slice none 0 0, .int .i64 0, .slice none 0 0, .int .i64 0, .slice none 0 0, .int .i64 0, .slice none 0 0, .int .i64 0] 77, pt ob5 #[.slice none 0 0] 43, memO m2 c3 (linkL (List.replicate (3 + (5 + 1) : Int).toNat 0) 3 5 (5 : Int).toNat) (0 + 1 + 5) op6] _ := hM
  replace hM := hM.ownPt (cap := 0) (n := 0) (sz := 1) (xs := []) rfl (by decide) (by decide) rfl
  replace hM : Mem _ _ [own 3 1 (.slice (some ⟨b11, 0, none⟩) 0 0) 0 ((([] : List Int)).map (Value.int .i64)), own 3 1 (.slice a9 X.length c10) X.length (X.map (Value.int .i64)), pt q1 #[.pointer (some ⟨m2, 0, none⟩), .int .i64 3, .slice (some ⟨nb4, 0, none⟩) 5 5, .slice (some ⟨ob5, 0, none⟩) 1 1] 128, pt nb4 #[.slice none 0 0, .int .i64 0, .slice none 0 0, .int .i64 0, .slice none 0 0, .int .i64 0, .slice none 0 0, .int .i64 0, .slice none 0 0, .int .i64 0] 77, pt ob5 #[.slice none 0 0] 43, memO m2 c3 (linkL (List.replicate (3 + (5 + 1) : Int).toNat 0) 3 5 (5 : Int).toNat) (0 + 1 + 5) op6] _ := hM
  refine S.val hA (R.move rfl) rfl ?_; clear hA a; intro a hA
  refine S.appendI (k := 0) hA hM rfl (hM.intSl (k := 1) rfl) Try.underlying43 info3 rfl rfl rfl rfl rfl rfl (by show 0 + X.length ≤ 9223372036854775807; omega) (by show (0 + X.length) * 8 ≤ _; omega) rfl ?_; clear hA hM a; intro a13 c14 w6 hM a hA
  rw [Nat.zero_add, List.map_nil, List.nil_append] at hM; rw [Nat.zero_add] at hA
  replace hM : Mem _ _ [own 3 1 (.slice a13 X.length c14) X.length (X.map (Value.int .i64)), own 3 1 (.slice a9 X.length c10) X.length (X.map (Value.int .i64)), pt q1 #[.pointer (some ⟨m2, 0, none⟩), .int .i64 3, .slice (some ⟨nb4, 0, none⟩) 5 5, .slice (some ⟨ob5, 0, none⟩) 1 1] 128, pt nb4 #[.slice none 0 0, .int .i64 0, .slice none 0 0, .int .i64 0, .slice none 0 0, .int .i64 0, .slice none 0 0, .int .i64 0, .slice none 0 0, .int .i64 0] 77, pt ob5 #[.slice none 0 0] 43, memO m2 c3 (linkL (List.replicate (3 + (5 + 1) : Int).toNat 0) 3 5 (5 : Int).toNat) (0 + 1 + 5) op6] _ := hM
  refine S.val hA (R.assign rfl) rfl ?_; clear hA a; intro a hA
  refine S.done ?_
  replace hA : St 124 [(0, _), (1, _), (2, _), (6, _), (7, _), (10, _)] a := hA.sub ((.cons rfl (.cons rfl (.cons rfl (.cons rfl (.cons rfl (.cons rfl .nil)))))))
  refine Ends.seq ?_
  refine Ends.region ?_
  refine S.val hA (R.move rfl) rfl ?_; clear hA a; intro a hA
  refine S.val hA (R.move rfl) rfl ?_; clear hA a; intro a hA
  refine S.val hA (R.move rfl) rfl ?_; clear hA a; intro a hA
  refine S.val hA (R.move rfl) rfl ?_; clear hA a; intro a hA
  refine S.val hA (R.build (cells := #[.slice a9 X.length c10, .int .i64 b]) rfl (by kernel_rfl)) rfl ?_; clear hA a; intro a hA
  replace hM := hM.front (k := 2) rfl
  replace hM : Mem _ _ [pt q1 #[.pointer (some ⟨m2, 0, none⟩), .int .i64 3, .slice (some ⟨nb4, 0, none⟩) 5 5, .slice (some ⟨ob5, 0, none⟩) 1 1] 128, own 3 1 (.slice a13 X.length c14) X.length (X.map (Value.int .i64)), own 3 1 (.slice a9 X.length c10) X.length (X.map (Value.int .i64)), pt nb4 #[.slice none 0 0, .int .i64 0, .slice none 0 0, .int .i64 0, .slice none 0 0, .int .i64 0, .slice none 0 0, .int .i64 0, .slice none 0 0, .int .i64 0] 77, pt ob5 #[.slice none 0 0] 43, memO m2 c3 (linkL (List.replicate (3 + (5 + 1) : Int).toNat 0) 3 5 (5 : Int).toNat) (0 + 1 + 5) op6] _ := hM
  refine S.call hA (R.callF Try.func44 rfl rfl rfl) rfl (pkeep_no q1 m2 nb4 5 ob5 1 3 slot a9 X c10 b (by first | omega | decide | (simp; done) | (simp; omega)) _ (hM.hereN 1)) ?_; clear hA a
  rintro e w7 ⟨rfl, hn⟩
  replace hM : Mem _ _ [pt q1 #[.pointer (some ⟨m2, 0, none⟩), .int .i64 3, .slice (some ⟨nb4, 0, none⟩) 5 5, .slice (some ⟨ob5, 0, none⟩) 1 1] 128, own 3 1 (.slice a13 X.length c14) X.length (X.map (Value.int .i64)), own 3 1 (.slice a9 X.length c10) X.length (X.map (Value.int .i64)), pt nb4 #[.slice none 0 0, .int .i64 0, .slice none 0 0, .int .i64 0, .slice none 0 0, .int .i64 0, .slice none 0 0, .int .i64 0, .slice none 0 0, .int .i64 0] 77, pt ob5 #[.slice none 0 0] 43, memO m2 c3 (linkL (List.replicate (3 + (5 + 1) : Int).toNat 0) 3 5 (5 : Int).toNat) (0 + 1 + 5) op6] _ := hM.callL 1 hn; clear hn
  refine ⟨.tuple #[], rfl, fun a hA => ?_⟩
  refine S.done ?_
  replace hA : St 124 [(0, _), (1, _), (2, _), (6, _), (7, _), (10, _)] a := hA.sub ((.cons rfl (.cons rfl (.cons rfl (.cons rfl (.cons rfl (.cons rfl .nil)))))))
  refine Ends.seq ?_
  refine Ends.seq ?_
  refine Ends.region ?_
  refine S.val hA (R.assign rfl) rfl ?_; clear hA a; intro a hA
  refine S.done ?_
  replace hA : St 124 [(0, _), (1, _), (2, _), (6, _), (7, _), (10, _), (11, _)] a := hA.sub ((.cons rfl (.cons rfl (.cons rfl (.cons rfl (.cons rfl (.cons rfl (.cons rfl .nil))))))))
  refine Ends.block ?_
  refine Ends.loop (σ := Nat × List Int × Option Addr) (fun (k, Z11, az1) (a : Act) (wv : World) => St 124 [(0, .int .i64 slot), (1, .slice az1 X.length c10), (2, .int .i64 b), (6, .bool false), (7, .pointer (some ⟨q1, 0, none⟩)), (10, .slice a13 X.length c14), (11, .int .i64 ((k : Int)))] a ∧ Mem w nof [pt q1 #[.pointer (some ⟨m2, 0, none⟩), .int .i64 3, .slice (some ⟨nb4, 0, none⟩) 5 5, .slice (some ⟨ob5, 0, none⟩) 1 1] 128, own 3 1 (.slice a13 X.length c14) X.length (X.map (Value.int .i64)), own 3 1 (.slice az1 X.length c10) X.length (Z11.map (Value.int .i64)), pt nb4 #[.slice none 0 0, .int .i64 0, .slice none 0 0, .int .i64 0, .slice none 0 0, .int .i64 0, .slice none 0 0, .int .i64 0, .slice none 0 0, .int .i64 0] 77, pt ob5 #[.slice none 0 0] 43, memO m2 c3 (linkL (List.replicate (3 + (5 + 1) : Int).toNat 0) 3 5 (5 : Int).toNat) (0 + 1 + 5) op6] wv ∧ (k ≤ X.length) ∧ (Z11.length = X.length)) (fun (k, Z11, az1) => X.length - k) ((0, X, a9)) ⟨hA.sub ((.cons rfl (.cons rfl (.cons rfl (.cons rfl (.cons rfl (.cons rfl (.cons rfl .nil)))))))), hM, (by omega), rfl⟩ ?_
  clear hA hM a
  rintro ⟨k, Z11, az1⟩ a w8 ⟨hA, hM, hk, hZ11⟩ hNext
  refine Ends.seq ?_
  refine Ends.seq ?_
  refine Ends.region ?_
  refine S.val hA (R.move rfl) rfl ?_; clear hA a; intro a hA
  refine S.val hA (R.move rfl) rfl ?_; clear hA a; intro a hA
  refine S.val hA (R.lenS Try.underlying43 rfl rfl) rfl ?_; clear hA a; intro a hA
  refine S.val hA (R.lss rfl rfl) rfl ?_; clear hA a; intro a hA
  refine S.done ?_
  replace hA : St 124 [(0, _), (1, _), (2, _), (6, _), (7, _), (10, _), (11, _), (41, _), (42, _), (43, _), (44, _)] a := hA.sub ((.cons rfl (.cons rfl (.cons rfl (.cons rfl (.cons rfl (.cons rfl (.cons rfl (.cons rfl (.cons rfl (.cons rfl (.cons rfl .nil))))))))))))
  refine Ends.ite hA rfl (fun hc15 => ?_) (fun hc15 => ?_)
  ·
    refine Ends.skip ?_
    refine Ends.seq ?_
    refine Ends.block ?_
    obtain ⟨gz, hgz⟩ := hM.ownAt (k := 2) rfl (by omega)
    subst hgz
    replace hM : Mem _ _ [pt q1 #[.pointer (some ⟨m2, 0, none⟩), .int .i64 3, .slice (some ⟨nb4, 0, none⟩) 5 5, .slice (some ⟨ob5, 0, none⟩) 1 1] 128, own 3 1 (.slice a13 X.length c14) X.length (X.map (Value.int .i64)), own 3 1 (.slice (some ⟨gz, 0, none⟩) X.length c10) X.length (Z11.map (Value.int .i64)), pt nb4 #[.slice none 0 0, .int .i64 0, .slice none 0 0, .int .i64 0, .slice none 0 0, .int .i64 0, .slice none 0 0, .int .i64 0, .slice none 0 0, .int .i64 0] 77, pt ob5 #[.slice none 0 0] 43, memO m2 c3 (linkL (List.replicate (3 + (5 + 1) : Int).toNat 0) 3 5 (5 : Int).toNat) (0 + 1 + 5) op6] _ := hM
    refine Ends.region ?_
    refine S.val hA (R.move rfl) rfl ?_; clear hA a; intro a hA
    refine S.val hA (R.move rfl) rfl ?_; clear hA a; intro a hA
    refine S.val hA (R.move rfl) rfl ?_; clear hA a; intro a hA
    refine S.val hA (R.move rfl) rfl ?_; clear hA a; intro a hA
    refine S.val hA (R.indexAddr (q := k) sl43 rfl rfl (by first | omega | (simp; done)) (by first | omega | (simp; done))) rfl ?_; clear hA a; intro a hA
    refine S.val hA (R.load sz3 rfl (hM.ownCell (k := 2) rfl (mapi_get _ _ (by first | omega | (simp; done))))) rfl ?_; clear hA a; intro a hA
    refine S.val hA (R.bits (by simp) rfl rfl) rfl ?_; clear hA a; intro a hA
    refine S.val hA (R.indexAddr (q := k) sl43 rfl rfl (by first | omega | (simp; done)) (by first | omega | (simp; done))) rfl ?_; clear hA a; intro a hA
    refine S.storeO (k := 2) hA hM sz3 rfl rfl rfl rfl (mapi_get Z11 k (by first | omega | (simp; done))) ?_; clear hM; intro w9 hM; rw [mapi_set] at hM
    replace hM : Mem _ _ [pt q1 #[.pointer (some ⟨m2, 0, none⟩), .int .i64 3, .slice (some ⟨nb4, 0, none⟩) 5 5, .slice (some ⟨ob5, 0, none⟩) 1 1] 128, own 3 1 (.slice a13 X.length c14) X.length (X.map (Value.int .i64)), own 3 1 (.slice (some ⟨gz, 0, none⟩) X.length c10) X.length (((Z11.set k (bits .xor .i64 (Z11.getD k 0) 3))).map (Value.int .i64)), pt nb4 #[.slice none 0 0, .int .i64 0, .slice none 0 0, .int .i64 0, .slice none 0 0, .int .i64 0, .slice none 0 0, .int .i64 0, .slice none 0 0, .int .i64 0] 77, pt ob5 #[.slice none 0 0] 43, memO m2 c3 (linkL (List.replicate (3 + (5 + 1) : Int).toNat 0) 3 5 (5 : Int).toNat) (0 + 1 + 5) op6] _ := hM
    refine S.done ?_
    replace hA : St 124 [(0, _), (1, _), (2, _), (6, _), (7, _), (10, _), (11, _), (41, _), (42, _), (43, _), (44, _), (47, _), (48, _), (49, _), (50, _), (51, _), (52, _), (53, _), (54, _)] a := hA.sub ((.cons rfl (.cons rfl (.cons rfl (.cons rfl (.cons rfl (.cons rfl (.cons rfl (.cons rfl (.cons rfl (.cons rfl (.cons rfl (.cons rfl (.cons rfl (.cons rfl (.cons rfl (.cons rfl (.cons rfl (.cons rfl (.cons rfl .nil))))))))))))))))))))
    refine Ends.inBlock ?_
    refine Ends.region ?_
    refine S.val hA (R.move rfl) rfl ?_; clear hA a; intro a hA
    refine S.val hA (R.addI rfl rfl (r := ((k : Int)) + 1) rfl (by first | omega | (simp; done))) rfl ?_; clear hA a; intro a hA
    refine S.val hA (R.assign rfl) rfl ?_; clear hA a; intro a hA
    refine S.done ?_
    replace hA : St 124 [(0, _), (1, _), (2, _), (6, _), (7, _), (10, _), (11, _), (41, _), (42, _), (43, _), (44, _), (45, _), (46, _), (47, _), (48, _), (49, _), (50, _), (51, _), (52, _), (53, _), (54, _)] a := hA.sub ((.cons rfl (.cons rfl (.cons rfl (.cons rfl (.cons rfl (.cons rfl (.cons rfl (.cons rfl (.cons rfl (.cons rfl (.cons rfl (.cons rfl (.cons rfl (.cons rfl (.cons rfl (.cons rfl (.cons rfl (.cons rfl (.cons rfl (.cons rfl (.cons rfl .nil))))))))))))))))))))))
    exact hNext ((k + 1, (Z11.set k (bits .xor .i64 (Z11.getD k 0) 3)), some ⟨gz, 0, none⟩)) _ _ ((by show X.length - (k + 1) < X.length - k; omega)) ⟨hA.sub ((.cons rfl (.cons rfl (.cons rfl (.cons rfl (.cons rfl (.cons rfl (.cons rfl .nil)))))))), hM, (by omega), (by rw [List.length_set]; exact hZ11)⟩
  ·
    refine Ends.exit rfl ?_
    replace hA : St 124 [(0, _), (2, _), (6, _), (7, _), (10, _)] a := hA.sub ((.cons rfl (.cons rfl (.cons rfl (.cons rfl (.cons rfl .nil))))))
    refine Ends.seq ?_
    refine Ends.region ?_
    refine S.val hA (R.move rfl) rfl ?_; clear hA a; intro a hA
    refine S.val hA (R.move rfl) rfl ?_; clear hA a; intro a hA
    refine S.call hA (R.callF Try.func45 rfl rfl rfl) rfl (pnode_no q1 m2 nb4 5 ob5 1 3 slot (by first | omega | decide | (simp; done) | (simp; omega)) _ (hM.hereN 1)) ?_; clear hA a
    rintro e w10 ⟨rfl, hn⟩
    replace hM : Mem _ _ [pt q1 #[.pointer (some ⟨m2, 0, none⟩), .int .i64 3, .slice (some ⟨nb4, 0, none⟩) 5 5, .slice (some ⟨ob5, 0, none⟩) 1 1] 128, own 3 1 (.slice a13 X.length c14) X.length (X.map (Value.int .i64)), own 3 1 (.slice az1 X.length c10) X.length (Z11.map (Value.int .i64)), pt nb4 #[.slice none 0 0, .int .i64 0, .slice none 0 0, .int .i64 0, .slice none 0 0, .int .i64 0, .slice none 0 0, .int .i64 0, .slice none 0 0, .int .i64 0] 77, pt ob5 #[.slice none 0 0] 43, memO m2 c3 (linkL (List.replicate (3 + (5 + 1) : Int).toNat 0) 3 5 (5 : Int).toNat) (0 + 1 + 5) op6] _ := hM.callL 1 hn; clear hn
    refine ⟨.agg #[.slice none 0 0, .int .i64 0], rfl, fun a hA => ?_⟩
    refine S.alloc hA hM info77 rfl rfl ?_; clear hA hM a; intro b16 w11 hb17 hM a hA
    replace hM : Mem _ _ [pt b16 #[.slice none 0 0, .int .i64 0] 77, pt q1 #[.pointer (some ⟨m2, 0, none⟩), .int .i64 3, .slice (some ⟨nb4, 0, none⟩) 5 5, .slice (some ⟨ob5, 0, none⟩) 1 1] 128, own 3 1 (.slice a13 X.length c14) X.length (X.map (Value.int .i64)), own 3 1 (.slice az1 X.length c10) X.length (Z11.map (Value.int .i64)), pt nb4 #[.slice none 0 0, .int .i64 0, .slice none 0 0, .int .i64 0, .slice none 0 0, .int .i64 0, .slice none 0 0, .int .i64 0, .slice none 0 0, .int .i64 0] 77, pt ob5 #[.slice none 0 0] 43, memO m2 c3 (linkL (List.replicate (3 + (5 + 1) : Int).toNat 0) 3 5 (5 : Int).toNat) (0 + 1 + 5) op6] _ := hM
    refine S.storeA (k := 0) hA hM sz77 rfl rfl rfl rfl rfl rfl ?_; clear hM
    intro w12 hM
    replace hM : Mem _ _ [pt b16 #[.slice none 0 0, .int .i64 0] 77, pt q1 #[.pointer (some ⟨m2, 0, none⟩), .int .i64 3, .slice (some ⟨nb4, 0, none⟩) 5 5, .slice (some ⟨ob5, 0, none⟩) 1 1] 128, own 3 1 (.slice a13 X.length c14) X.length (X.map (Value.int .i64)), own 3 1 (.slice az1 X.length c10) X.length (Z11.map (Value.int .i64)), pt nb4 #[.slice none 0 0, .int .i64 0, .slice none 0 0, .int .i64 0, .slice none 0 0, .int .i64 0, .slice none 0 0, .int .i64 0, .slice none 0 0, .int .i64 0] 77, pt ob5 #[.slice none 0 0] 43, memO m2 c3 (linkL (List.replicate (3 + (5 + 1) : Int).toNat 0) 3 5 (5 : Int).toNat) (0 + 1 + 5) op6] _ := hM
    refine S.done ?_
    replace hA : St 124 [(0, _), (2, _), (6, _), (7, _), (10, _), (12, _)] a := hA.sub ((.cons rfl (.cons rfl (.cons rfl (.cons rfl (.cons rfl (.cons rfl .nil)))))))
    refine Ends.seq ?_
    refine Ends.seq ?_
    refine Ends.cut (fun (a : Act) (wv : World) => St 124 [(0, .int .i64 slot), (2, .int .i64 b), (6, .bool false), (7, .pointer (some ⟨q1, 0, none⟩)), (10, .slice a13 X.length c14), (12, .pointer (some ⟨b16, 0, none⟩)), (63, .bool (decide ((slot < 0 ∨ 5 ≤ slot))))] a ∧ Mem w nof [pt b16 #[.slice none 0 0, .int .i64 0] 77, pt q1 #[.pointer (some ⟨m2, 0, none⟩), .int .i64 3, .slice (some ⟨nb4, 0, none⟩) 5 5, .slice (some ⟨ob5, 0, none⟩) 1 1] 128, own 3 1 (.slice a13 X.length c14) X.length (X.map (Value.int .i64)), own 3 1 (.slice az1 X.length c10) X.length (Z11.map (Value.int .i64)), pt nb4 #[.slice none 0 0, .int .i64 0, .slice none 0 0, .int .i64 0, .slice none 0 0, .int .i64 0, .slice none 0 0, .int .i64 0, .slice none 0 0, .int .i64 0] 77, pt ob5 #[.slice none 0 0] 43, memO m2 c3 (linkL (List.replicate (3 + (5 + 1) : Int).toNat 0) 3 5 (5 : Int).toNat) (0 + 1 + 5) op6] wv) ?_ (fun k2 hJ => ?_)
    · clear hA hM a; rintro a w13 ⟨hA, hM⟩
      refine Ends.ite hA rfl (fun hc18 => ?_) (fun hc18 => ?_)
      ·
        refine Ends.seq ?_
        refine Ends.region ?_
        refine S.val hA (R.fieldAddr (q := 0) fi77_0 rfl rfl rfl) rfl ?_; clear hA a; intro a hA
        refine S.val hA (R.load sz43 rfl (hM.cell (k := 0) rfl rfl)) rfl ?_; clear hA a; intro a hA
        refine S.val hA (R.lenS Try.underlying43 rfl rfl) rfl ?_; clear hA a; intro a hA
        refine S.val hA (R.tt (R.eql rfl rfl) (by first | decide | simp | omega)) rfl ?_; clear hA a; intro a hA
        refine S.val hA (R.move rfl) rfl ?_; clear hA a; intro a hA
        refine S.valg (dj := 68) hA (by kernel_rfl) rfl (R.fieldAddr (q := 1) fi77_1 rfl rfl rfl) rfl ?_; clear hA a; intro a hA
        refine S.valg (dj := 68) hA (by kernel_rfl) rfl (R.load sz3 rfl (hM.cell (k := 0) rfl rfl)) rfl ?_; clear hA a; intro a hA
        refine S.valg (dj := 68) hA (by kernel_rfl) rfl (R.tt (R.eql rfl rfl) (by first | decide | simp | omega)) rfl ?_; clear hA a; intro a hA
        refine S.val hA (R.pickT rfl rfl) rfl ?_; clear hA a; intro a hA
        refine S.val hA (R.assign rfl) rfl ?_; clear hA a; intro a hA
        refine S.done ?_
        replace hA : St 124 [(0, _), (2, _), (6, _), (7, _), (10, _), (12, _)] a := hA.sub ((.cons rfl (.cons rfl (.cons rfl (.cons rfl (.cons rfl (.cons rfl .nil)))))))
        refine Ends.ret1 Try.func9 Try.results9 hA rfl ?_
        exact ⟨rfl, hM.nilL.below⟩
      · exfalso; omega
    ·
      refine Ends.region ?_
      refine S.val hA (R.move rfl) rfl ?_; clear hA a; intro a hA
      refine S.val hA (R.lss rfl rfl) rfl ?_; clear hA a; intro a hA
      refine S.val hA (R.move rfl) rfl ?_; clear hA a; intro a hA
      refine hA.split (d := 60) rfl ?_ ?_
      · clear hA; intro hg19 hA
        refine S.no (dj := 60) hA (by kernel_rfl) rfl rfl rfl ?_; clear hA a; intro a hA
        refine S.no (dj := 60) hA (by kernel_rfl) rfl rfl rfl ?_; clear hA a; intro a hA
        refine S.val hA (R.pickT rfl rfl) rfl ?_; clear hA a; intro a hA
        refine S.done ?_
        replace hA : St 124 [(0, _), (2, _), (6, _), (7, _), (10, _), (12, _), (63, _)] a := hA.sub ((.cons rfl (.cons rfl (.cons rfl (.cons rfl (.cons rfl (.cons rfl (.cons rfl .nil))))))))
        exact hJ _ _ ⟨hA.sub (.cons rfl (.cons rfl (.cons rfl (.cons rfl (.cons rfl (.cons rfl (.cons (by first | rfl | exact congrArg (fun b => some (Value.bool b)) (by first | (simp; done) | simp [hg19])) .nil))))))), hM⟩
      · clear hA; intro hg19 hA
        refine S.valg (dj := 60) hA (by kernel_rfl) rfl (R.move rfl) rfl ?_; clear hA a; intro a hA
        refine S.valg (dj := 60) hA (by kernel_rfl) rfl (R.geq rfl rfl) rfl ?_; clear hA a; intro a hA
        refine S.val hA (R.pickF rfl rfl) rfl ?_; clear hA a; intro a hA
        refine S.done ?_
        replace hA : St 124 [(0, _), (2, _), (6, _), (7, _), (10, _), (12, _), (63, _)] a := hA.sub ((.cons rfl (.cons rfl (.cons rfl (.cons rfl (.cons rfl (.cons rfl (.cons rfl .nil))))))))
        exact hJ _ _ ⟨hA.sub (.cons rfl (.cons rfl (.cons rfl (.cons rfl (.cons rfl (.cons rfl (.cons (by first | rfl | exact congrArg (fun b => some (Value.bool b)) (by first | (simp; done) | simp [hg19])) .nil))))))), hM⟩
set_option maxRecDepth 100000 in
set_option maxHeartbeats 400000 in
theorem poolKeeps_0 (b : Int) (ad : Option Addr) (nr cap0 : Nat) (ol : List Int) (hln : nr = ol.length) (w : World) (hsl : IntSl w (.slice ad nr cap0) ol) :
    Calls Try.prog 9 #[.int .i64 0, .slice ad nr cap0, .int .i64 b] w fun e w' => e = .returned (.bool true) ∧ Below w.heap.size w w' := by
  have hM := Mem.start w
  refine Calls.of_ends (vs := [.int .i64 0, .slice ad nr cap0, .int .i64 b]) Try.func9 rfl Try.ntmps9 rfl ?_
  intro a hA
  replace hA : St 124 [(0, _), (1, _), (2, _)] a := hA
  refine Ends.seq ?_
  refine Ends.region ?_
  refine S.val hA (R.assign rfl) rfl ?_; clear hA a; intro a hA
  refine S.done ?_
  replace hA : St 124 [(0, _), (1, _), (2, _), (6, _)] a := hA.sub ((.cons rfl (.cons rfl (.cons rfl (.cons rfl .nil)))))
  refine Ends.seq ?_
  refine Ends.region ?_
  refine S.call hA (R.callF Try.func42 rfl rfl rfl) rfl (pfresh_any 5 1 (by first | omega | decide | (simp; done) | (simp; omega)) (by first | omega | decide | (simp; done) | (simp; omega)) _) ?_; clear hA a
  rintro e w1 ⟨q1, m2, c3, nb4, ob5, op6, rfl, hm2c3, hn⟩
  replace hM : Mem _ _ [pt q1 #[.pointer (some ⟨m2, 0, none⟩), .int .i64 3, .slice (some ⟨nb4, 0, none⟩) 5 5, .slice (some ⟨ob5, 0, none⟩) 1 1] 128, pt nb4 ((madeCells #[.slice none 0 0, .int .i64 0] (5 * 2))) 77, pt ob5 #[.slice none 0 0] 43, memO m2 c3 (linkL (List.replicate (3 + (5 + 1) : Int).toNat 0) 3 5 (5 : Int).toNat) (0 + 1 + 5) op6] _ := hM.call hn; clear hn
  refine ⟨.tuple #[.pointer (some ⟨q1, 0, none⟩), .pointer (some ⟨m2, 0, none⟩), .bool true], rfl, fun a hA => ?_⟩
  refine S.val hA (R.move rfl) rfl ?_; clear hA a; intro a hA
  refine S.val hA (R.extract (v := .pointer (some ⟨q1, 0, none⟩)) rfl rfl) rfl ?_; clear hA a; intro a hA
  refine S.val hA (R.extract (v := .pointer (some ⟨m2, 0, none⟩)) rfl rfl) rfl ?_; clear hA a; intro a hA
  refine S.val hA (R.extract (v := .bool true) rfl rfl) rfl ?_; clear hA a; intro a hA
  refine S.val hA (R.assign rfl) rfl ?_; clear hA a; intro a hA
  refine S.val hA (R.assign rfl) rfl ?_; clear hA a; intro a hA
  refine S.val hA (R.assign rfl) rfl ?_; clear hA a; intro a hA
  refine S.done ?_
  replace hA : St 124 [(0, _), (1, _), (2, _), (6, _), (7, _), (9, _)] a := hA.sub ((.cons rfl (.cons rfl (.cons rfl (.cons rfl (.cons rfl (.cons rfl .nil)))))))
  refine Ends.seq ?_
  rw [made10] at hM
  replace hM : Mem _ _ [pt q1 #[.pointer (some ⟨m2, 0, none⟩), .int .i64 3, .slice (some ⟨nb4, 0, none⟩) 5 5, .slice (some ⟨ob5, 0, none⟩) 1 1] 128, pt nb4 #[.slice none 0 0, .int .i64 0, .slice none 0 0, .int .i64 0, .slice none 0 0, .int .i64 0, .slice none 0 0, .int .i64 0, .slice none 0 0, .int .i64 0] 77, pt ob5 #[.slice none 0 0] 43, memO m2 c3 (linkL (List.replicate (3 + (5 + 1) : Int).toNat 0) 3 5 (5 : Int).toNat) (0 + 1 + 5) op6] _ := hM
  refine Ends.region ?_
  refine S.buildSl0 hA hM Try.underlying43 info3 rfl ?_; clear hA hM a; intro b7 w2 hb8 hM a hA
  replace hM : Mem _ _ [pt b7 #[] 3, pt q1 #[.pointer (some ⟨m2, 0, none⟩), .int .i64 3, .slice (some ⟨nb4, 0, none⟩) 5 5, .slice (some ⟨ob5, 0, none⟩) 1 1] 128, pt nb4 #[.slice none 0 0, .int .i64 0, .slice none 0 0, .int .i64 0, .slice none 0 0, .int .i64 0, .slice none 0 0, .int .i64 0, .slice none 0 0, .int .i64 0] 77, pt ob5 #[.slice none 0 0] 43, memO m2 c3 (linkL (List.replicate (3 + (5 + 1) : Int).toNat 0) 3 5 (5 : Int).toNat) (0 + 1 + 5) op6] _ := hM
  replace hM := hM.ownPt (cap := 0) (n := 0) (sz := 1) (xs := []) rfl (by decide) (by decide) rfl
  replace hM : Mem _ _ [own 3 1 (.slice (some ⟨b7, 0, none⟩) 0 0) 0 ((([] : List Int)).map (Value.int .i64)), pt q1 #[.pointer (some ⟨m2, 0, none⟩), .int .i64 3, .slice (some ⟨nb4, 0, none⟩) 5 5, .slice (some ⟨ob5, 0, none⟩) 1 1] 128, pt nb4 #[.slice none 0 0, .int .i64 0, .slice none 0 0, .int .i64 0, .slice none 0 0, .int .i64 0, .slice none 0 0, .int .i64 0, .slice none 0 0, .int .i64 0] 77, pt ob5 #[.slice none 0 0] 43, memO m2 c3 (linkL (List.replicate (3 + (5 + 1) : Int).toNat 0) 3 5 (5 : Int).toNat) (0 + 1 + 5) op6] _ := hM
  refine S.val hA (R.move rfl) rfl ?_; clear hA a; intro a hA
  refine S.val hA (R.move rfl) rfl ?_; clear hA a; intro a hA
  refine S.val hA (R.lenS Try.underlying43 rfl rfl) rfl ?_; clear hA a; intro a hA
  refine S.val hA (R.min rfl rfl) rfl ?_; clear hA a; intro a hA
  have hcl0 := hsl.len
  obtain ⟨X, hX, hXl⟩ : ∃ X : List Int, IntSl w (.slice ad X.length cap0) X ∧ (X.length : Int) = min (nr : Int) 70 := by
    have hcl := hsl.len
    refine ⟨ol.take (min nr 70), ?_, by rw [List.length_take]; omega⟩
    have := hsl.cut (min nr 70) (by omega)
    rwa [show (ol.take (min nr 70)).length = min nr 70 by rw [List.length_take]; omega]
  refine S.val hA (R.sliceH (h := X.length) Try.underlying43 info3 rfl rfl (by first | omega | (simp; done)) (by first | omega | (simp; done))) rfl ?_; clear hA a; intro a hA
  refine S.appendI (k := 0) hA hM rfl (hX.mem hM) Try.underlying43 info3 rfl rfl rfl rfl rfl rfl (by show 0 + X.length ≤ 9223372036854775807; omega) (by show (0 + X.length) * 8 ≤ _; omega) rfl ?_; clear hA hM a; intro a9 c10 w3 hM a hA
  rw [Nat.zero_add, List.map_nil, List.nil_append] at hM; rw [Nat.zero_add] at hA
  replace hM : Mem _ _ [own 3 1 (.slice a9 X.length c10) X.length (X.map (Value.int .i64)), pt q1 #[.pointer (some ⟨m2, 0, none⟩), .int .i64 3, .slice (some ⟨nb4, 0, none⟩) 5 5, .slice (some ⟨ob5, 0, none⟩) 1 1] 128, pt nb4 #[.slice none 0 0, .int .i64 0, .slice none 0 0, .int .i64 0, .slice none 0 0, .int .i64 0, .slice none 0 0, .int .i64 0, .slice none 0 0, .int .i64 0] 77, pt ob5 #[.slice none 0 0] 43, memO m2 c3 (linkL (List.replicate (3 + (5 + 1) : Int).toNat 0) 3 5 (5 : Int).toNat) (0 + 1 + 5) op6] _ := hM
  refine S.val hA (R.assign rfl) rfl ?_; clear hA a; intro a hA
  refine S.done ?_
  replace hA : St 124 [(0, _), (1, _), (2, _), (6, _), (7, _), (9, _)] a := hA.sub ((.cons rfl (.cons rfl (.cons rfl (.cons rfl (.cons rfl (.cons rfl .nil)))))))
  refine Ends.seq ?_
  refine Ends.seq ?_
  refine Ends.region ?_
  refine S.call hA (R.callF Try.func43 rfl rfl rfl) rfl (ppools_any _) ?_; clear hA a
  rintro e w4 ⟨rfl, hb⟩
  replace hM := hM.callB hb; clear hb
  refine ⟨.bool true, rfl, fun a hA => ?_⟩
  refine S.val hA (R.not rfl) rfl ?_; clear hA a; intro a hA
  refine S.val hA (R.move rfl) rfl ?_; clear hA a; intro a hA
  refine S.valg (dj := 28) hA (by kernel_rfl) rfl (R.move rfl) rfl ?_; clear hA a; intro a hA
  refine S.valg (dj := 28) hA (by kernel_rfl) rfl (R.not rfl) rfl ?_; clear hA a; intro a hA
  refine S.val hA (R.pickF rfl rfl) rfl ?_; clear hA a; intro a hA
  refine S.done ?_
  replace hA : St 124 [(0, _), (1, _), (2, _), (6, _), (7, _), (31, _)] a := hA.sub ((.cons rfl (.cons rfl (.cons rfl (.cons rfl (.cons rfl (.cons rfl .nil)))))))
  refine Ends.condF hA rfl ?_
  refine Ends.skip ?_
  refine Ends.seq ?_
  refine Ends.region ?_
  refine S.buildSl0 hA hM Try.underlying43 info3 rfl ?_; clear hA hM a; intro b11 w5 hb12 hM a hA
  replace hM : Mem _ _ [pt b11 #[] 3, own 3 1 (.slice a9 X.length c10) X.length (X.map (Value.int .i64)), pt q1 #[.pointer (some ⟨m2, 0, none⟩), .int .i64 3, .slice (some ⟨nb4, 0, none⟩) 5 5, .slice (some ⟨ob5, 0, none⟩) 1 1] 128, pt nb4 #[.slice none 0 0, .int .i64 0, .slice none 0 0, .int .i64 0, .slice none 0 0, .int .i64 0, .slice none 0 0, .int .i64 0, .slice none 0 0, .int .i64 0] 77, pt ob5 #[.slice none 0 0] 43, memO m2 c3 (linkL (List.replicate (3 + (5 + 1) : Int).toNat 0) 3 5 (5 : Int).toNat) (0 + 1 + 5) op6] _ := hM
  replace hM := hM.ownPt (cap := 0) (n := 0) (sz := 1) (xs := []) rfl (by decide) (by decide) rfl
  replace hM : Mem _ _ [own 3 1 (.slice (some ⟨b11, 0, none⟩) 0 0) 0 ((([] : List Int)).map (Value.int .i64)), own 3 1 (.slice a9 X.length c10) X.length (X.map (Value.int .i64)), pt q1 #[.pointer (some ⟨m2, 0, none⟩), .int .i64 3, .slice (some ⟨nb4, 0, none⟩) 5 5, .slice (some ⟨ob5, 0, none⟩) 1 1] 128, pt nb4 #[.slice none 0 0, .int .i64 0, .slice none 0 0, .int .i64 0, .slice none 0 0, .int .i64 0, .slice none 0 0, .int .i64 0, .slice none 0 0, .int .i64 0] 77, pt ob5 #[.slice none 0 0] 43, memO m2 c3 (linkL (List.replicate (3 + (5 + 1) : Int).toNat 0) 3 5 (5 : Int).toNat) (0 + 1 + 5) op6] _ := hM
  refine S.val hA (R.move rfl) rfl ?_; clear hA a; intro a hA
  refine S.appendI (k := 0) hA hM rfl (hM.intSl (k := 1) rfl) Try.underlying43 info3 rfl rfl rfl rfl rfl rfl (by show 0 + X.length ≤ 9223372036854775807; omega) (by show (0 + X.length) * 8 ≤ _; omega) rfl ?_; clear hA hM a; intro a13 c14 w6 hM a hA
  rw [Nat.zero_add, List.map_nil, List.nil_append] at hM; rw [Nat.zero_add] at hA
  replace hM : Mem _ _ [own 3 1 (.slice a13 X.length c14) X.length (X.map (Value.int .i64)), own 3 1 (.slice a9 X.length c10) X.length (X.map (Value.int .i64)), pt q1 #[.pointer (some ⟨m2, 0, none⟩), .int .i64 3, .slice (some ⟨nb4, 0, none⟩) 5 5, .slice (some ⟨ob5, 0, none⟩) 1 1] 128, pt nb4 #[.slice none 0 0, .int .i64 0, .slice none 0 0, .int .i64 0, .slice none 0 0, .int .i64 0, .slice none 0 0, .int .i64 0, .slice none 0 0, .int .i64 0] 77, pt ob5 #[.slice none 0 0] 43, memO m2 c3 (linkL (List.replicate (3 + (5 + 1) : Int).toNat 0) 3 5 (5 : Int).toNat) (0 + 1 + 5) op6] _ := hM
  refine S.val hA (R.assign rfl) rfl ?_; clear hA a; intro a hA
  refine S.done ?_
  replace hA : St 124 [(0, _), (1, _), (2, _), (6, _), (7, _), (10, _)] a := hA.sub ((.cons rfl (.cons rfl (.cons rfl (.cons rfl (.cons rfl (.cons rfl .nil)))))))
  refine Ends.seq ?_
  refine Ends.region ?_
  refine S.val hA (R.move rfl) rfl ?_; clear hA a; intro a hA
  refine S.val hA (R.move rfl) rfl ?_; clear hA a; intro a hA
  refine S.val hA (R.move rfl) rfl ?_; clear hA a; intro a hA
  refine S.val hA (R.move rfl) rfl ?_; clear hA a; intro a hA
  refine S.val hA (R.build (cells := #[.slice a9 X.length c10, .int .i64 b]) rfl (by kernel_rfl)) rfl ?_; clear hA a; intro a hA
  replace hM := hM.front (k := 1) rfl
  replace hM := hM.front (k := 3) rfl
  replace hM := hM.front (k := 3) rfl
  replace hM : Mem _ _ [pt q1 #[.pointer (some ⟨m2, 0, none⟩), .int .i64 3, .slice (some ⟨nb4, 0, none⟩) 5 5, .slice (some ⟨ob5, 0, none⟩) 1 1] 128, pt nb4 #[.slice none 0 0, .int .i64 0, .slice none 0 0, .int .i64 0, .slice none 0 0, .int .i64 0, .slice none 0 0, .int .i64 0, .slice none 0 0, .int .i64 0] 77, own 3 1 (.slice a9 X.length c10) X.length (X.map (Value.int .i64)), own 3 1 (.slice a13 X.length c14) X.length (X.map (Value.int .i64)), pt ob5 #[.slice none 0 0] 43, memO m2 c3 (linkL (List.replicate (3 + (5 + 1) : Int).toNat 0) 3 5 (5 : Int).toNat) (0 + 1 + 5) op6] _ := hM
  refine S.call hA (R.callF Try.func44 rfl rfl rfl) rfl (pkeep_0 q1 m2 nb4 ob5 1 3 a9 X c10 b (by omega) _ (hM.hereN 3)) ?_; clear hA a
  rintro e w7 ⟨a15, c16, rfl, hn⟩
  replace hM : Mem _ _ [pt q1 #[.pointer (some ⟨m2, 0, none⟩), .int .i64 3, .slice (some ⟨nb4, 0, none⟩) 5 5, .slice (some ⟨ob5, 0, none⟩) 1 1] 128, pt nb4 #[.slice a15 X.length c16, .int .i64 b, .slice none 0 0, .int .i64 0, .slice none 0 0, .int .i64 0, .slice none 0 0, .int .i64 0, .slice none 0 0, .int .i64 0] 77, own 3 1 (.slice a9 X.length c10) X.length (X.map (Value.int .i64)), own 3 1 (.slice a15 X.length c16) X.length (X.map (Value.int .i64)), own 3 1 (.slice a13 X.length c14) X.length (X.map (Value.int .i64)), pt ob5 #[.slice none 0 0] 43, memO m2 c3 (linkL (List.replicate (3 + (5 + 1) : Int).toNat 0) 3 5 (5 : Int).toNat) (0 + 1 + 5) op6] _ := hM.callL 3 hn; clear hn
  refine ⟨.tuple #[], rfl, fun a hA => ?_⟩
  refine S.done ?_
  replace hA : St 124 [(0, _), (1, _), (2, _), (6, _), (7, _), (10, _)] a := hA.sub ((.cons rfl (.cons rfl (.cons rfl (.cons rfl (.cons rfl (.cons rfl .nil)))))))
  refine Ends.seq ?_
  refine Ends.seq ?_
  refine Ends.region ?_
  refine S.val hA (R.assign rfl) rfl ?_; clear hA a; intro a hA
  refine S.done ?_
  replace hA : St 124 [(0, _), (1, _), (2, _), (6, _), (7, _), (10, _), (11, _)] a := hA.sub ((.cons rfl (.cons rfl (.cons rfl (.cons rfl (.cons rfl (.cons rfl (.cons rfl .nil))))))))
  refine Ends.block ?_
  refine Ends.loop (σ := Nat × List Int × Option Addr) (fun (k, Z11, az1) (a : Act) (wv : World) => St 124 [(0, .int .i64 0), (1, .slice az1 X.length c10), (2, .int .i64 b), (6, .bool false), (7, .pointer (some ⟨q1, 0, none⟩)), (10, .slice a13 X.length c14), (11, .int .i64 ((k : Int)))] a ∧ Mem w nof [pt q1 #[.pointer (some ⟨m2, 0, none⟩), .int .i64 3, .slice (some ⟨nb4, 0, none⟩) 5 5, .slice (some ⟨ob5, 0, none⟩) 1 1] 128, pt nb4 #[.slice a15 X.length c16, .int .i64 b, .slice none 0 0, .int .i64 0, .slice none 0 0, .int .i64 0, .slice none 0 0, .int .i64 0, .slice none 0 0, .int .i64 0] 77, own 3 1 (.slice az1 X.length c10) X.length (Z11.map (Value.int .i64)), own 3 1 (.slice a15 X.length c16) X.length (X.map (Value.int .i64)), own 3 1 (.slice a13 X.length c14) X.length (X.map (Value.int .i64)), pt ob5 #[.slice none 0 0] 43, memO m2 c3 (linkL (List.replicate (3 + (5 + 1) : Int).toNat 0) 3 5 (5 : Int).toNat) (0 + 1 + 5) op6] wv ∧ (k ≤ X.length) ∧ (Z11.length = X.length)) (fun (k, Z11, az1) => X.length - k) ((0, X, a9)) ⟨hA.sub ((.cons rfl (.cons rfl (.cons rfl (.cons rfl (.cons rfl (.cons rfl (.cons rfl .nil)))))))), hM, (by omega), rfl⟩ ?_
  clear hA hM a
  rintro ⟨k, Z11, az1⟩ a w8 ⟨hA, hM, hk, hZ11⟩ hNext
  refine Ends.seq ?_
  refine Ends.seq ?_
  refine Ends.region ?_
  refine S.val hA (R.move rfl) rfl ?_; clear hA a; intro a hA
  refine S.val hA (R.move rfl) rfl ?_; clear hA a; intro a hA
  refine S.val hA (R.lenS Try.underlying43 rfl rfl) rfl ?_; clear hA a; intro a hA
  refine S.val hA (R.lss rfl rfl) rfl ?_; clear hA a; intro a hA
  refine S.done ?_
  replace hA : St 124 [(0, _), (1, _), (2, _), (6, _), (7, _), (10, _), (11, _), (41, _), (42, _), (43, _), (44, _)] a := hA.sub ((.cons rfl (.cons rfl (.cons rfl (.cons rfl (.cons rfl (.cons rfl (.cons rfl (.cons rfl (.cons rfl (.cons rfl (.cons rfl .nil))))))))))))
  refine Ends.ite hA rfl (fun hc17 => ?_) (fun hc17 => ?_)
  ·
    refine Ends.skip ?_
    refine Ends.seq ?_
    refine Ends.block ?_
    obtain ⟨gz, hgz⟩ := hM.ownAt (k := 2) rfl (by omega)
    subst hgz
    replace hM : Mem _ _ [pt q1 #[.pointer (some ⟨m2, 0, none⟩), .int .i64 3, .slice (some ⟨nb4, 0, none⟩) 5 5, .slice (some ⟨ob5, 0, none⟩) 1 1] 128, pt nb4 #[.slice a15 X.length c16, .int .i64 b, .slice none 0 0, .int .i64 0, .slice none 0 0, .int .i64 0, .slice none 0 0, .int .i64 0, .slice none 0 0, .int .i64 0] 77, own 3 1 (.slice (some ⟨gz, 0, none⟩) X.length c10) X.length (Z11.map (Value.int .i64)), own 3 1 (.slice a15 X.length c16) X.length (X.map (Value.int .i64)), own 3 1 (.slice a13 X.length c14) X.length (X.map (Value.int .i64)), pt ob5 #[.slice none 0 0] 43, memO m2 c3 (linkL (List.replicate (3 + (5 + 1) : Int).toNat 0) 3 5 (5 : Int).toNat) (0 + 1 + 5) op6] _ := hM
    refine Ends.region ?_
    refine S.val hA (R.move rfl) rfl ?_; clear hA a; intro a hA
    refine S.val hA (R.move rfl) rfl ?_; clear hA a; intro a hA
    refine S.val hA (R.move rfl) rfl ?_; clear hA a; intro a hA
    refine S.val hA (R.move rfl) rfl ?_; clear hA a; intro a hA
    refine S.val hA (R.indexAddr (q := k) sl43 rfl rfl (by first | omega | (simp; done)) (by first | omega | (simp; done))) rfl ?_; clear hA a; intro a hA
    refine S.val hA (R.load sz3 rfl (hM.ownCell (k := 2) rfl (mapi_get _ _ (by first | omega | (simp; done))))) rfl ?_; clear hA a; intro a hA
    refine S.val hA (R.bits (by simp) rfl rfl) rfl ?_; clear hA a; intro a hA
    refine S.val hA (R.indexAddr (q := k) sl43 rfl rfl (by first | omega | (simp; done)) (by first | omega | (simp; done))) rfl ?_; clear hA a; intro a hA
    refine S.storeO (k := 2) hA hM sz3 rfl rfl rfl rfl (mapi_get Z11 k (by first | omega | (simp; done))) ?_; clear hM; intro w9 hM; rw [mapi_set] at hM
    replace hM : Mem _ _ [pt q1 #[.pointer (some ⟨m2, 0, none⟩), .int .i64 3, .slice (some ⟨nb4, 0, none⟩) 5 5, .slice (some ⟨ob5, 0, none⟩) 1 1] 128, pt nb4 #[.slice a15 X.length c16, .int .i64 b, .slice none 0 0, .int .i64 0, .slice none 0 0, .int .i64 0, .slice none 0 0, .int .i64 0, .slice none 0 0, .int .i64 0] 77, own 3 1 (.slice (some ⟨gz, 0, none⟩) X.length c10) X.length (((Z11.set k (bits .xor .i64 (Z11.getD k 0) 3))).map (Value.int .i64)), own 3 1 (.slice a15 X.length c16) X.length (X.map (Value.int .i64)), own 3 1 (.slice a13 X.length c14) X.length (X.map (Value.int .i64)), pt ob5 #[.slice none 0 0] 43, memO m2 c3 (linkL (List.replicate (3 + (5 + 1) : Int).toNat 0) 3 5 (5 : Int).toNat) (0 + 1 + 5) op6] _ := hM
    refine S.done ?_
    replace hA : St 124 [(0, _), (1, _), (2, _), (6, _), (7, _), (10, _), (11, _), (41, _), (42, _), (43, _), (44, _), (47, _), (48, _), (49, _), (50, _), (51, _), (52, _), (53, _), (54, _)] a := hA.sub ((.cons rfl (.cons rfl (.cons rfl (.cons rfl (.cons rfl (.cons rfl (.cons rfl (.cons rfl (.cons rfl (.cons rfl (.cons rfl (.cons rfl (.cons rfl (.cons rfl (.cons rfl (.cons rfl (.cons rfl (.cons rfl (.cons rfl .nil))))))))))))))))))))
    refine Ends.inBlock ?_
    refine Ends.region ?_
    refine S.val hA (R.move rfl) rfl ?_; clear hA a; intro a hA
    refine S.val hA (R.addI rfl rfl (r := ((k : Int)) + 1) rfl (by first | omega | (simp; done))) rfl ?_; clear hA a; intro a hA
    refine S.val hA (R.assign rfl) rfl ?_; clear hA a; intro a hA
    refine S.done ?_
    replace hA : St 124 [(0, _), (1, _), (2, _), (6, _), (7, _), (10, _), (11, _), (41, _), (42, _), (43, _), (44, _), (45, _), (46, _), (47, _), (48, _), (49, _), (50, _), (51, _), (52, _), (53, _), (54, _)] a := hA.sub ((.cons rfl (.cons rfl (.cons rfl (.cons rfl (.cons rfl (.cons rfl (.cons rfl (.cons rfl (.cons rfl (.cons rfl (.cons rfl (.cons rfl (.cons rfl (.cons rfl (.cons rfl (.cons rfl (.cons rfl (.cons rfl (.cons rfl (.cons rfl (.cons rfl .nil))))))))))))))))))))))
    exact hNext ((k + 1, (Z11.set k (bits .xor .i64 (Z11.getD k 0) 3)), some ⟨gz, 0, none⟩)) _ _ ((by show X.length - (k + 1) < X.length - k; omega)) ⟨hA.sub ((.cons rfl (.cons rfl (.cons rfl (.cons rfl (.cons rfl (.cons rfl (.cons rfl .nil)))))))), hM, (by omega), (by rw [List.length_set]; exact hZ11)⟩
  ·
    refine Ends.exit rfl ?_
    replace hA : St 124 [(0, _), (2, _), (6, _), (7, _), (10, _)] a := hA.sub ((.cons rfl (.cons rfl (.cons rfl (.cons rfl (.cons rfl .nil))))))
    refine Ends.seq ?_
    refine Ends.region ?_
    refine S.val hA (R.move rfl) rfl ?_; clear hA a; intro a hA
    refine S.val hA (R.move rfl) rfl ?_; clear hA a; intro a hA
    replace hM := hM.front (k := 3) rfl
    replace hM := hM.front (k := 2) rfl
    replace hM := hM.front (k := 2) rfl
    replace hM : Mem _ _ [pt q1 #[.pointer (some ⟨m2, 0, none⟩), .int .i64 3, .slice (some ⟨nb4, 0, none⟩) 5 5, .slice (some ⟨ob5, 0, none⟩) 1 1] 128, pt nb4 #[.slice a15 X.length c16, .int .i64 b, .slice none 0 0, .int .i64 0, .slice none 0 0, .int .i64 0, .slice none 0 0, .int .i64 0, .slice none 0 0, .int .i64 0] 77, own 3 1 (.slice a15 X.length c16) X.length (X.map (Value.int .i64)), own 3 1 (.slice az1 X.length c10) X.length (Z11.map (Value.int .i64)), own 3 1 (.slice a13 X.length c14) X.length (X.map (Value.int .i64)), pt ob5 #[.slice none 0 0] 43, memO m2 c3 (linkL (List.replicate (3 + (5 + 1) : Int).toNat 0) 3 5 (5 : Int).toNat) (0 + 1 + 5) op6] _ := hM
    refine S.call hA (R.callF Try.func45 rfl rfl rfl) rfl (pnode_ok q1 m2 nb4 5 ob5 1 3 0 [.slice a15 X.length c16, .int .i64 b, .slice none 0 0, .int .i64 0, .slice none 0 0, .int .i64 0, .slice none 0 0, .int .i64 0, .slice none 0 0, .int .i64 0] a15 X c16 b (by first | omega | decide | (simp; done) | (simp; omega)) (by decide) rfl _ (hM.hereN 3)) ?_; clear hA a
    rintro e w10 ⟨a18, c19, rfl, hn⟩
    replace hM : Mem _ _ [own 3 1 (.slice a18 X.length c19) X.length (X.map (Value.int .i64)), pt q1 #[.pointer (some ⟨m2, 0, none⟩), .int .i64 3, .slice (some ⟨nb4, 0, none⟩) 5 5, .slice (some ⟨ob5, 0, none⟩) 1 1] 128, pt nb4 #[.slice a15 X.length c16, .int .i64 b, .slice none 0 0, .int .i64 0, .slice none 0 0, .int .i64 0, .slice none 0 0, .int .i64 0, .slice none 0 0, .int .i64 0] 77, own 3 1 (.slice a15 X.length c16) X.length (X.map (Value.int .i64)), own 3 1 (.slice az1 X.length c10) X.length (Z11.map (Value.int .i64)), own 3 1 (.slice a13 X.length c14) X.length (X.map (Value.int .i64)), pt ob5 #[.slice none 0 0] 43, memO m2 c3 (linkL (List.replicate (3 + (5 + 1) : Int).toNat 0) 3 5 (5 : Int).toNat) (0 + 1 + 5) op6] _ := hM.callL 3 hn; clear hn
    refine ⟨.agg #[.slice a18 X.length c19, .int .i64 b], rfl, fun a hA => ?_⟩
    refine S.alloc hA hM info77 rfl rfl ?_; clear hA hM a; intro b20 w11 hb21 hM a hA
    replace hM : Mem _ _ [pt b20 #[.slice none 0 0, .int .i64 0] 77, own 3 1 (.slice a18 X.length c19) X.length (X.map (Value.int .i64)), pt q1 #[.pointer (some ⟨m2, 0, none⟩), .int .i64 3, .slice (some ⟨nb4, 0, none⟩) 5 5, .slice (some ⟨ob5, 0, none⟩) 1 1] 128, pt nb4 #[.slice a15 X.length c16, .int .i64 b, .slice none 0 0, .int .i64 0, .slice none 0 0, .int .i64 0, .slice none 0 0, .int .i64 0, .slice none 0 0, .int .i64 0] 77, own 3 1 (.slice a15 X.length c16) X.length (X.map (Value.int .i64)), own 3 1 (.slice az1 X.length c10) X.length (Z11.map (Value.int .i64)), own 3 1 (.slice a13 X.length c14) X.length (X.map (Value.int .i64)), pt ob5 #[.slice none 0 0] 43, memO m2 c3 (linkL (List.replicate (3 + (5 + 1) : Int).toNat 0) 3 5 (5 : Int).toNat) (0 + 1 + 5) op6] _ := hM
    refine S.storeA (k := 0) hA hM sz77 rfl rfl rfl rfl rfl rfl ?_; clear hM
    intro w12 hM
    replace hM : Mem _ _ [pt b20 #[.slice a18 X.length c19, .int .i64 b] 77, own 3 1 (.slice a18 X.length c19) X.length (X.map (Value.int .i64)), pt q1 #[.pointer (some ⟨m2, 0, none⟩), .int .i64 3, .slice (some ⟨nb4, 0, none⟩) 5 5, .slice (some ⟨ob5, 0, none⟩) 1 1] 128, pt nb4 #[.slice a15 X.length c16, .int .i64 b, .slice none 0 0, .int .i64 0, .slice none 0 0, .int .i64 0, .slice none 0 0, .int .i64 0, .slice none 0 0, .int .i64 0] 77, own 3 1 (.slice a15 X.length c16) X.length (X.map (Value.int .i64)), own 3 1 (.slice az1 X.length c10) X.length (Z11.map (Value.int .i64)), own 3 1 (.slice a13 X.length c14) X.length (X.map (Value.int .i64)), pt ob5 #[.slice none 0 0] 43, memO m2 c3 (linkL (List.replicate (3 + (5 + 1) : Int).toNat 0) 3 5 (5 : Int).toNat) (0 + 1 + 5) op6] _ := hM
    refine S.done ?_
    replace hA : St 124 [(0, _), (2, _), (6, _), (7, _), (10, _), (12, _)] a := hA.sub ((.cons rfl (.cons rfl (.cons rfl (.cons rfl (.cons rfl (.cons rfl .nil)))))))
    refine Ends.seq ?_
    refine Ends.seq ?_
    refine Ends.region ?_
    refine S.val hA (R.move rfl) rfl ?_; clear hA a; intro a hA
    refine S.val hA (R.ff (R.lss rfl rfl) (by first | decide | simp | omega)) rfl ?_; clear hA a; intro a hA
    refine S.val hA (R.move rfl) rfl ?_; clear hA a; intro a hA
    refine S.valg (dj := 60) hA (by kernel_rfl) rfl (R.move rfl) rfl ?_; clear hA a; intro a hA
    refine S.valg (dj := 60) hA (by kernel_rfl) rfl (R.ff (R.geq rfl rfl) (by first | decide | simp | omega)) rfl ?_; clear hA a; intro a hA
    refine S.val hA (R.pickF rfl rfl) rfl ?_; clear hA a; intro a hA
    refine S.done ?_
    replace hA : St 124 [(0, _), (2, _), (6, _), (7, _), (10, _), (12, _), (63, _)] a := hA.sub ((.cons rfl (.cons rfl (.cons rfl (.cons rfl (.cons rfl (.cons rfl (.cons rfl .nil))))))))
    refine Ends.condF hA rfl ?_
    refine Ends.skip ?_
    refine Ends.seq ?_
    refine Ends.seq ?_
    refine Ends.region ?_
    refine S.val hA (R.fieldAddr (q := 0) fi77_0 rfl rfl rfl) rfl ?_; clear hA a; intro a hA
    refine S.val hA (R.load sz43 rfl (hM.cell (k := 0) rfl rfl)) rfl ?_; clear hA a; intro a hA
    refine S.val hA (R.move rfl) rfl ?_; clear hA a; intro a hA
    refine S.call hA (R.callF Try.func40 rfl rfl rfl) rfl (same09_eq (.slice a18 X.length c19) (.slice a13 X.length c14) X _ (hM.intSl (k := 1) rfl) (hM.intSl (k := 6) rfl)) ?_; clear hA a
    rintro e w13 ⟨rfl, hb⟩
    replace hM := hM.callB hb; clear hb
    refine ⟨.bool true, rfl, fun a hA => ?_⟩
    refine S.val hA (R.not rfl) rfl ?_; clear hA a; intro a hA
    refine S.val hA (R.move rfl) rfl ?_; clear hA a; intro a hA
    refine S.valg (dj := 78) hA (by kernel_rfl) rfl (R.fieldAddr (q := 1) fi77_1 rfl rfl rfl) rfl ?_; clear hA a; intro a hA
    refine S.valg (dj := 78) hA (by kernel_rfl) rfl (R.load sz3 rfl (hM.cell (k := 0) rfl rfl)) rfl ?_; clear hA a; intro a hA
    refine S.valg (dj := 78) hA (by kernel_rfl) rfl (R.move rfl) rfl ?_; clear hA a; intro a hA
    refine S.valg (dj := 78) hA (by kernel_rfl) rfl (R.ff (R.neq rfl rfl) (by first | omega | (simp; done))) rfl ?_; clear hA a; intro a hA
    refine S.val hA (R.pickF rfl rfl) rfl ?_; clear hA a; intro a hA
    refine S.val hA (R.move rfl) rfl ?_; clear hA a; intro a hA
    refine S.valg (dj := 84) hA (by kernel_rfl) rfl (R.move rfl) rfl ?_; clear hA a; intro a hA
    refine S.valg (dj := 84) hA (by kernel_rfl) rfl (R.move rfl) rfl ?_; clear hA a; intro a hA
    replace hM := hM.front (k := 3) rfl
    replace hM := hM.front (k := 3) rfl
    replace hM : Mem _ _ [pt q1 #[.pointer (some ⟨m2, 0, none⟩), .int .i64 3, .slice (some ⟨nb4, 0, none⟩) 5 5, .slice (some ⟨ob5, 0, none⟩) 1 1] 128, pt nb4 #[.slice a15 X.length c16, .int .i64 b, .slice none 0 0, .int .i64 0, .slice none 0 0, .int .i64 0, .slice none 0 0, .int .i64 0, .slice none 0 0, .int .i64 0] 77, pt b20 #[.slice a18 X.length c19, .int .i64 b] 77, own 3 1 (.slice a18 X.length c19) X.length (X.map (Value.int .i64)), own 3 1 (.slice a15 X.length c16) X.length (X.map (Value.int .i64)), own 3 1 (.slice az1 X.length c10) X.length (Z11.map (Value.int .i64)), own 3 1 (.slice a13 X.length c14) X.length (X.map (Value.int .i64)), pt ob5 #[.slice none 0 0] 43, memO m2 c3 (linkL (List.replicate (3 + (5 + 1) : Int).toNat 0) 3 5 (5 : Int).toNat) (0 + 1 + 5) op6] _ := hM
    refine S.callg (dj := 84) hA (by kernel_rfl) rfl (R.callF Try.func46 rfl rfl rfl) rfl (pbound_ok q1 m2 nb4 5 ob5 1 3 0 [.slice a15 X.length c16, .int .i64 b, .slice none 0 0, .int .i64 0, .slice none 0 0, .int .i64 0, .slice none 0 0, .int .i64 0, .slice none 0 0, .int .i64 0] b (by decide) rfl _ (hM.hereN 2)) ?_; clear hA a
    rintro e w14 ⟨rfl, hn⟩
    replace hM : Mem _ _ [pt q1 #[.pointer (some ⟨m2, 0, none⟩), .int .i64 3, .slice (some ⟨nb4, 0, none⟩) 5 5, .slice (some ⟨ob5, 0, none⟩) 1 1] 128, pt nb4 #[.slice a15 X.length c16, .int .i64 b, .slice none 0 0, .int .i64 0, .slice none 0 0, .int .i64 0, .slice none 0 0, .int .i64 0, .slice none 0 0, .int .i64 0] 77, pt b20 #[.slice a18 X.length c19, .int .i64 b] 77, own 3 1 (.slice a18 X.length c19) X.length (X.map (Value.int .i64)), own 3 1 (.slice a15 X.length c16) X.length (X.map (Value.int .i64)), own 3 1 (.slice az1 X.length c10) X.length (Z11.map (Value.int .i64)), own 3 1 (.slice a13 X.length c14) X.length (X.map (Value.int .i64)), pt ob5 #[.slice none 0 0] 43, memO m2 c3 (linkL (List.replicate (3 + (5 + 1) : Int).toNat 0) 3 5 (5 : Int).toNat) (0 + 1 + 5) op6] _ := hM.callL 2 hn; clear hn
    refine ⟨.int .i64 b, rfl, fun a hA => ?_⟩
    refine S.valg (dj := 84) hA (by kernel_rfl) rfl (R.move rfl) rfl ?_; clear hA a; intro a hA
    refine S.valg (dj := 84) hA (by kernel_rfl) rfl (R.ff (R.neq rfl rfl) (by first | omega | (simp; done))) rfl ?_; clear hA a; intro a hA
    refine S.val hA (R.pickF rfl rfl) rfl ?_; clear hA a; intro a hA
    refine S.done ?_
    replace hA : St 124 [(0, _), (6, _), (7, _), (10, _), (12, _), (90, _)] a := hA.sub ((.cons rfl (.cons rfl (.cons rfl (.cons rfl (.cons rfl (.cons rfl .nil)))))))
    refine Ends.condF hA rfl ?_
    refine Ends.skip ?_
    refine Ends.seq ?_
    refine Ends.seq ?_
    refine Ends.region ?_
    refine S.val hA (R.assign rfl) rfl ?_; clear hA a; intro a hA
    refine S.done ?_
    replace hA : St 124 [(0, _), (6, _), (7, _), (10, _), (12, _), (13, _)] a := hA.sub ((.cons rfl (.cons rfl (.cons rfl (.cons rfl (.cons rfl (.cons rfl .nil)))))))
    refine Ends.block ?_
    refine Ends.loop (σ := Nat × List Int × Option Addr) (fun (k, Z13, az2) (a : Act) (wv : World) => St 124 [(0, .int .i64 0), (6, .bool false), (7, .pointer (some ⟨q1, 0, none⟩)), (10, .slice a13 X.length c14), (12, .pointer (some ⟨b20, 0, none⟩)), (13, .int .i64 ((k : Int)))] a ∧ Mem w nof [pt q1 #[.pointer (some ⟨m2, 0, none⟩), .int .i64 3, .slice (some ⟨nb4, 0, none⟩) 5 5, .slice (some ⟨ob5, 0, none⟩) 1 1] 128, pt nb4 #[.slice a15 X.length c16, .int .i64 b, .slice none 0 0, .int .i64 0, .slice none 0 0, .int .i64 0, .slice none 0 0, .int .i64 0, .slice none 0 0, .int .i64 0] 77, pt b20 #[.slice az2 X.length c19, .int .i64 b] 77, own 3 1 (.slice az2 X.length c19) X.length (Z13.map (Value.int .i64)), own 3 1 (.slice a15 X.length c16) X.length (X.map (Value.int .i64)), own 3 1 (.slice az1 X.length c10) X.length (Z11.map (Value.int .i64)), own 3 1 (.slice a13 X.length c14) X.length (X.map (Value.int .i64)), pt ob5 #[.slice none 0 0] 43, memO m2 c3 (linkL (List.replicate (3 + (5 + 1) : Int).toNat 0) 3 5 (5 : Int).toNat) (0 + 1 + 5) op6] wv ∧ (k ≤ X.length) ∧ (Z13.length = X.length)) (fun (k, Z13, az2) => X.length - k) ((0, X, a18)) ⟨hA.sub ((.cons rfl (.cons rfl (.cons rfl (.cons rfl (.cons rfl (.cons rfl .nil))))))), hM, (by omega), rfl⟩ ?_
    clear hA hM a
    rintro ⟨k, Z13, az2⟩ a w15 ⟨hA, hM, hk, hZ13⟩ hNext1
    refine Ends.seq ?_
    refine Ends.seq ?_
    refine Ends.region ?_
    refine S.val hA (R.move rfl) rfl ?_; clear hA a; intro a hA
    refine S.val hA (R.fieldAddr (q := 0) fi77_0 rfl rfl rfl) rfl ?_; clear hA a; intro a hA
    refine S.val hA (R.load sz43 rfl (hM.cell (k := 2) rfl rfl)) rfl ?_; clear hA a; intro a hA
    refine S.val hA (R.lenS Try.underlying43 rfl rfl) rfl ?_; clear hA a; intro a hA
    refine S.val hA (R.lss rfl rfl) rfl ?_; clear hA a; intro a hA
    refine S.done ?_
    replace hA : St 124 [(0, _), (6, _), (7, _), (10, _), (12, _), (13, _), (91, _), (92, _), (93, _), (94, _), (95, _)] a := hA.sub ((.cons rfl (.cons rfl (.cons rfl (.cons rfl (.cons rfl (.cons rfl (.cons rfl (.cons rfl (.cons rfl (.cons rfl (.cons rfl .nil))))))))))))
    refine Ends.ite hA rfl (fun hc22 => ?_) (fun hc22 => ?_)
    ·
      refine Ends.skip ?_
      refine Ends.seq ?_
      refine Ends.block ?_
      obtain ⟨gz, hgz⟩ := hM.ownAt (k := 3) rfl (by omega)
      subst hgz
      replace hM : Mem _ _ [pt q1 #[.pointer (some ⟨m2, 0, none⟩), .int .i64 3, .slice (some ⟨nb4, 0, none⟩) 5 5, .slice (some ⟨ob5, 0, none⟩) 1 1] 128, pt nb4 #[.slice a15 X.length c16, .int .i64 b, .slice none 0 0, .int .i64 0, .slice none 0 0, .int .i64 0, .slice none 0 0, .int .i64 0, .slice none 0 0, .int .i64 0] 77, pt b20 #[.slice (some ⟨gz, 0, none⟩) X.length c19, .int .i64 b] 77, own 3 1 (.slice (some ⟨gz, 0, none⟩) X.length c19) X.length (Z13.map (Value.int .i64)), own 3 1 (.slice a15 X.length c16) X.length (X.map (Value.int .i64)), own 3 1 (.slice az1 X.length c10) X.length (Z11.map (Value.int .i64)), own 3 1 (.slice a13 X.length c14) X.length (X.map (Value.int .i64)), pt ob5 #[.slice none 0 0] 43, memO m2 c3 (linkL (List.replicate (3 + (5 + 1) : Int).toNat 0) 3 5 (5 : Int).toNat) (0 + 1 + 5) op6] _ := hM
      refine Ends.drawn (Mem w nof [pt q1 #[.pointer (some ⟨m2, 0, none⟩), .int .i64 3, .slice (some ⟨nb4, 0, none⟩) 5 5, .slice (some ⟨ob5, 0, none⟩) 1 1] 128, pt nb4 #[.slice a15 X.length c16, .int .i64 b, .slice none 0 0, .int .i64 0, .slice none 0 0, .int .i64 0, .slice none 0 0, .int .i64 0, .slice none 0 0, .int .i64 0] 77, pt b20 #[.slice (some ⟨gz, 0, none⟩) X.length c19, .int .i64 b] 77, own 3 1 (.slice (some ⟨gz, 0, none⟩) X.length c19) X.length (Z13.map (Value.int .i64)), own 3 1 (.slice a15 X.length c16) X.length (X.map (Value.int .i64)), own 3 1 (.slice az1 X.length c10) X.length (Z11.map (Value.int .i64)), own 3 1 (.slice a13 X.length c14) X.length (X.map (Value.int .i64)), pt ob5 #[.slice none 0 0] 43]) (.cons (0, true) (.cons (1, true) (.cons (2, true) (.cons (3, true) (.cons (4, true) (.cons (5, true) (.cons (6, true) (.cons (7, true) (.cons (8, true) (.cons (9, true) (.cons (10, false) .nil))))))))))) 10 mixed (by kernel_rfl) (by kernel_rfl) (by kernel_rfl) (hM.drop 8).drew ?_
      replace hM := hM.drew
      refine D.valF hA rfl (fun _ => R.fieldAddr (q := 0) fi77_0 rfl rfl rfl) rfl ?_; clear hA a; intro a hA
      refine D.val hA rfl (by kernel_rfl) (fun _ hM => R.load sz43 rfl (hM.cell (k := 2) rfl rfl)) rfl ?_; clear hA a; intro a hA
      refine D.valF hA rfl (fun _ => R.move rfl) rfl ?_; clear hA a; intro a hA
      refine D.valF hA rfl (fun _ => R.fieldAddr (q := 0) fi77_0 rfl rfl rfl) rfl ?_; clear hA a; intro a hA
      refine D.val hA rfl (by kernel_rfl) (fun _ hM => R.load sz43 rfl (hM.cell (k := 2) rfl rfl)) rfl ?_; clear hA a; intro a hA
      refine D.valF hA rfl (fun _ => R.move rfl) rfl ?_; clear hA a; intro a hA
      refine D.valF hA rfl (fun _ => R.indexAddr (q := k) sl43 rfl rfl (by first | omega | (simp; done)) (by first | omega | (simp; done))) rfl ?_; clear hA a; intro a hA
      refine D.val hA rfl (by kernel_rfl) (fun _ hM => R.load sz3 rfl (hM.ownCell (k := 3) rfl (mapi_get _ _ (by first | omega | (simp; done))))) rfl ?_; clear hA a; intro a hA
      refine D.valF hA rfl (fun _ => R.bits (by simp) rfl rfl) rfl ?_; clear hA a; intro a hA
      refine D.valF hA rfl (fun _ => R.indexAddr (q := k) sl43 rfl rfl (by first | omega | (simp; done)) (by first | omega | (simp; done))) rfl ?_; clear hA a; intro a hA
      refine D.storeO (k := 3) hA hM rfl sz3 rfl rfl rfl rfl (mapi_get Z13 k (by first | omega | (simp; done))) ?_; clear hM; intro w16 hM; rw [mapi_set] at hM
      refine ⟨fun hne => absurd rfl hne, ?_⟩
      replace hM : Mem _ _ [pt q1 #[.pointer (some ⟨m2, 0, none⟩), .int .i64 3, .slice (some ⟨nb4, 0, none⟩) 5 5, .slice (some ⟨ob5, 0, none⟩) 1 1] 128, pt nb4 #[.slice a15 X.length c16, .int .i64 b, .slice none 0 0, .int .i64 0, .slice none 0 0, .int .i64 0, .slice none 0 0, .int .i64 0, .slice none 0 0, .int .i64 0] 77, pt b20 #[.slice (some ⟨gz, 0, none⟩) X.length c19, .int .i64 b] 77, own 3 1 (.slice (some ⟨gz, 0, none⟩) X.length c19) X.length (((Z13.set k (bits .xor .i64 (Z13.getD k 0) 3))).map (Value.int .i64)), own 3 1 (.slice a15 X.length c16) X.length (X.map (Value.int .i64)), own 3 1 (.slice az1 X.length c10) X.length (Z11.map (Value.int .i64)), own 3 1 (.slice a13 X.length c14) X.length (X.map (Value.int .i64)), pt ob5 #[.slice none 0 0] 43, memO m2 c3 (linkL (List.replicate (3 + (5 + 1) : Int).toNat 0) 3 5 (5 : Int).toNat) (0 + 1 + 5) op6] _ := hM
      refine D.done ?_
      replace hA : St 124 [(0, _), (6, _), (7, _), (10, _), (12, _), (13, _), (91, _), (92, _), (93, _), (94, _), (95, _), (98, _), (99, _), (100, _), (101, _), (102, _), (103, _), (104, _), (105, _), (106, _), (107, _)] a := hA.sub ((.cons rfl (.cons rfl (.cons rfl (.cons rfl (.cons rfl (.cons rfl (.cons rfl (.cons rfl (.cons rfl (.cons rfl (.cons rfl (.cons rfl (.cons rfl (.cons rfl (.cons rfl (.cons rfl (.cons rfl (.cons rfl (.cons rfl (.cons rfl (.cons rfl .nil))))))))))))))))))))))
      refine Ends.inBlock ?_
      refine Ends.region ?_
      refine S.val hA (R.move rfl) rfl ?_; clear hA a; intro a hA
      refine S.val hA (R.addI rfl rfl (r := ((k : Int)) + 1) rfl (by first | omega | (simp; done))) rfl ?_; clear hA a; intro a hA
      refine S.val hA (R.assign rfl) rfl ?_; clear hA a; intro a hA
      refine S.done ?_
      replace hA : St 124 [(0, _), (6, _), (7, _), (10, _), (12, _), (13, _), (91, _), (92, _), (93, _), (94, _), (95, _), (96, _), (97, _), (98, _), (99, _), (100, _), (101, _), (102, _), (103, _), (104, _), (105, _), (106, _), (107, _)] a := hA.sub ((.cons rfl (.cons rfl (.cons rfl (.cons rfl (.cons rfl (.cons rfl (.cons rfl (.cons rfl (.cons rfl (.cons rfl (.cons rfl (.cons rfl (.cons rfl (.cons rfl (.cons rfl (.cons rfl (.cons rfl (.cons rfl (.cons rfl (.cons rfl (.cons rfl (.cons rfl (.cons rfl .nil))))))))))))))))))))))))
      exact hNext1 ((k + 1, (Z13.set k (bits .xor .i64 (Z13.getD k 0) 3)), some ⟨gz, 0, none⟩)) _ _ ((by show X.length - (k + 1) < X.length - k; omega)) ⟨hA.sub ((.cons rfl (.cons rfl (.cons rfl (.cons rfl (.cons rfl (.cons rfl .nil))))))), hM, (by omega), (by rw [List.length_set]; exact hZ13)⟩
    ·
      refine Ends.exit rfl ?_
      replace hA : St 124 [(0, _), (6, _), (7, _), (10, _)] a := hA.sub ((.cons rfl (.cons rfl (.cons rfl (.cons rfl .nil)))))
      refine Ends.seq ?_
      refine Ends.region ?_
      refine S.val hA (R.move rfl) rfl ?_; clear hA a; intro a hA
      refine S.val hA (R.move rfl) rfl ?_; clear hA a; intro a hA
      replace hM := hM.front (k := 4) rfl
      replace hM := hM.front (k := 2) rfl
      replace hM := hM.front (k := 2) rfl
      replace hM : Mem _ _ [pt q1 #[.pointer (some ⟨m2, 0, none⟩), .int .i64 3, .slice (some ⟨nb4, 0, none⟩) 5 5, .slice (some ⟨ob5, 0, none⟩) 1 1] 128, pt nb4 #[.slice a15 X.length c16, .int .i64 b, .slice none 0 0, .int .i64 0, .slice none 0 0, .int .i64 0, .slice none 0 0, .int .i64 0, .slice none 0 0, .int .i64 0] 77, own 3 1 (.slice a15 X.length c16) X.length (X.map (Value.int .i64)), pt b20 #[.slice az2 X.length c19, .int .i64 b] 77, own 3 1 (.slice az2 X.length c19) X.length (Z13.map (Value.int .i64)), own 3 1 (.slice az1 X.length c10) X.length (Z11.map (Value.int .i64)), own 3 1 (.slice a13 X.length c14) X.length (X.map (Value.int .i64)), pt ob5 #[.slice none 0 0] 43, memO m2 c3 (linkL (List.replicate (3 + (5 + 1) : Int).toNat 0) 3 5 (5 : Int).toNat) (0 + 1 + 5) op6] _ := hM
      refine S.call hA (R.callF Try.func45 rfl rfl rfl) rfl (pnode_ok q1 m2 nb4 5 ob5 1 3 0 [.slice a15 X.length c16, .int .i64 b, .slice none 0 0, .int .i64 0, .slice none 0 0, .int .i64 0, .slice none 0 0, .int .i64 0, .slice none 0 0, .int .i64 0] a15 X c16 b (by first | omega | decide | (simp; done) | (simp; omega)) (by decide) rfl _ (hM.hereN 3)) ?_; clear hA a
      rintro e w17 ⟨a23, c24, rfl, hn⟩
      replace hM : Mem _ _ [own 3 1 (.slice a23 X.length c24) X.length (X.map (Value.int .i64)), pt q1 #[.pointer (some ⟨m2, 0, none⟩), .int .i64 3, .slice (some ⟨nb4, 0, none⟩) 5 5, .slice (some ⟨ob5, 0, none⟩) 1 1] 128, pt nb4 #[.slice a15 X.length c16, .int .i64 b, .slice none 0 0, .int .i64 0, .slice none 0 0, .int .i64 0, .slice none 0 0, .int .i64 0, .slice none 0 0, .int .i64 0] 77, own 3 1 (.slice a15 X.length c16) X.length (X.map (Value.int .i64)), pt b20 #[.slice az2 X.length c19, .int .i64 b] 77, own 3 1 (.slice az2 X.length c19) X.length (Z13.map (Value.int .i64)), own 3 1 (.slice az1 X.length c10) X.length (Z11.map (Value.int .i64)), own 3 1 (.slice a13 X.length c14) X.length (X.map (Value.int .i64)), pt ob5 #[.slice none 0 0] 43, memO m2 c3 (linkL (List.replicate (3 + (5 + 1) : Int).toNat 0) 3 5 (5 : Int).toNat) (0 + 1 + 5) op6] _ := hM.callL 3 hn; clear hn
      refine ⟨.agg #[.slice a23 X.length c24, .int .i64 b], rfl, fun a hA => ?_⟩
      refine S.val hA (R.field fi77_0 rfl rfl) rfl ?_; clear hA a; intro a hA
      refine S.val hA (R.move rfl) rfl ?_; clear hA a; intro a hA
      refine S.call hA (R.callF Try.func40 rfl rfl rfl) rfl (same09_eq (.slice a23 X.length c24) (.slice a13 X.length c14) X _ (hM.intSl (k := 0) rfl) (hM.intSl (k := 7) rfl)) ?_; clear hA a
      rintro e w18 ⟨rfl, hb⟩
      replace hM := hM.callB hb; clear hb
      refine ⟨.bool true, rfl, fun a hA => ?_⟩
      refine S.val hA (R.move rfl) rfl ?_; clear hA a; intro a hA
      refine S.valg (dj := 114) hA (by kernel_rfl) rfl (R.move rfl) rfl ?_; clear hA a; intro a hA
      refine S.valg (dj := 114) hA (by kernel_rfl) rfl (R.move rfl) rfl ?_; clear hA a; intro a hA
      refine S.valg (dj := 114) hA (by kernel_rfl) rfl (R.addI rfl rfl (r := 1) rfl (by first | omega | (simp; done))) rfl ?_; clear hA a; intro a hA
      refine S.valg (dj := 114) hA (by kernel_rfl) rfl (R.to (v := .int .i64 1) (R.remI rfl rfl rfl (by decide)) (congrArg (Value.int .i64) (by decide))) rfl ?_; clear hA a; intro a hA
      replace hM := hM.ownNil 3 1
      replace hM : Mem _ _ [own 3 1 (.slice none ((([] : List Int)).length) 0) ((([] : List Int)).length) ((([] : List Int)).map (Value.int .i64)), own 3 1 (.slice a23 X.length c24) X.length (X.map (Value.int .i64)), pt q1 #[.pointer (some ⟨m2, 0, none⟩), .int .i64 3, .slice (some ⟨nb4, 0, none⟩) 5 5, .slice (some ⟨ob5, 0, none⟩) 1 1] 128, pt nb4 #[.slice a15 X.length c16, .int .i64 b, .slice none 0 0, .int .i64 0, .slice none 0 0, .int .i64 0, .slice none 0 0, .int .i64 0, .slice none 0 0, .int .i64 0] 77, own 3 1 (.slice a15 X.length c16) X.length (X.map (Value.int .i64)), pt b20 #[.slice az2 X.length c19, .int .i64 b] 77, own 3 1 (.slice az2 X.length c19) X.length (Z13.map (Value.int .i64)), own 3 1 (.slice az1 X.length c10) X.length (Z11.map (Value.int .i64)), own 3 1 (.slice a13 X.length c14) X.length (X.map (Value.int .i64)), pt ob5 #[.slice none 0 0] 43, memO m2 c3 (linkL (List.replicate (3 + (5 + 1) : Int).toNat 0) 3 5 (5 : Int).toNat) (0 + 1 + 5) op6] _ := hM
      replace hM := hM.front (k := 3) rfl
      replace hM := hM.front (k := 3) rfl
      replace hM : Mem _ _ [pt q1 #[.pointer (some ⟨m2, 0, none⟩), .int .i64 3, .slice (some ⟨nb4, 0, none⟩) 5 5, .slice (some ⟨ob5, 0, none⟩) 1 1] 128, pt nb4 #[.slice a15 X.length c16, .int .i64 b, .slice none 0 0, .int .i64 0, .slice none 0 0, .int .i64 0, .slice none 0 0, .int .i64 0, .slice none 0 0, .int .i64 0] 77, own 3 1 (.slice none ((([] : List Int)).length) 0) ((([] : List Int)).length) ((([] : List Int)).map (Value.int .i64)), own 3 1 (.slice a23 X.length c24) X.length (X.map (Value.int .i64)), own 3 1 (.slice a15 X.length c16) X.length (X.map (Value.int .i64)), pt b20 #[.slice az2 X.length c19, .int .i64 b] 77, own 3 1 (.slice az2 X.length c19) X.length (Z13.map (Value.int .i64)), own 3 1 (.slice az1 X.length c10) X.length (Z11.map (Value.int .i64)), own 3 1 (.slice a13 X.length c14) X.length (X.map (Value.int .i64)), pt ob5 #[.slice none 0 0] 43, memO m2 c3 (linkL (List.replicate (3 + (5 + 1) : Int).toNat 0) 3 5 (5 : Int).toNat) (0 + 1 + 5) op6] _ := hM
      refine S.callg (dj := 114) hA (by kernel_rfl) rfl (R.callF Try.func45 rfl rfl rfl) rfl (pnode_ok q1 m2 nb4 5 ob5 1 3 1 [.slice a15 X.length c16, .int .i64 b, .slice none 0 0, .int .i64 0, .slice none 0 0, .int .i64 0, .slice none 0 0, .int .i64 0, .slice none 0 0, .int .i64 0] none (([] : List Int)) 0 0 (by first | omega | decide | (simp; done) | (simp; omega)) (by decide) rfl _ (hM.hereN 3)) ?_; clear hA a
      rintro e w19 ⟨a25, c26, rfl, hn⟩
      replace hM : Mem _ _ [own 3 1 (.slice a25 ((([] : List Int)).length) c26) ((([] : List Int)).length) ((([] : List Int)).map (Value.int .i64)), pt q1 #[.pointer (some ⟨m2, 0, none⟩), .int .i64 3, .slice (some ⟨nb4, 0, none⟩) 5 5, .slice (some ⟨ob5, 0, none⟩) 1 1] 128, pt nb4 #[.slice a15 X.length c16, .int .i64 b, .slice none 0 0, .int .i64 0, .slice none 0 0, .int .i64 0, .slice none 0 0, .int .i64 0, .slice none 0 0, .int .i64 0] 77, own 3 1 (.slice none ((([] : List Int)).length) 0) ((([] : List Int)).length) ((([] : List Int)).map (Value.int .i64)), own 3 1 (.slice a23 X.length c24) X.length (X.map (Value.int .i64)), own 3 1 (.slice a15 X.length c16) X.length (X.map (Value.int .i64)), pt b20 #[.slice az2 X.length c19, .int .i64 b] 77, own 3 1 (.slice az2 X.length c19) X.length (Z13.map (Value.int .i64)), own 3 1 (.slice az1 X.length c10) X.length (Z11.map (Value.int .i64)), own 3 1 (.slice a13 X.length c14) X.length (X.map (Value.int .i64)), pt ob5 #[.slice none 0 0] 43, memO m2 c3 (linkL (List.replicate (3 + (5 + 1) : Int).toNat 0) 3 5 (5 : Int).toNat) (0 + 1 + 5) op6] _ := hM.callL 3 hn; clear hn
      refine ⟨.agg #[.slice a25 ((([] : List Int)).length) c26, .int .i64 0], rfl, fun a hA => ?_⟩
      refine S.valg (dj := 114) hA (by kernel_rfl) rfl (R.field fi77_0 rfl rfl) rfl ?_; clear hA a; intro a hA
      refine S.valg (dj := 114) hA (by kernel_rfl) rfl (R.lenS Try.underlying43 rfl rfl) rfl ?_; clear hA a; intro a hA
      refine S.valg (dj := 114) hA (by kernel_rfl) rfl (R.eql rfl rfl) rfl ?_; clear hA a; intro a hA
      refine S.val hA (R.pickT rfl rfl) rfl ?_; clear hA a; intro a hA
      refine S.val hA (R.assign rfl) rfl ?_; clear hA a; intro a hA
      refine S.done ?_
      replace hA : St 124 [(6, _)] a := hA.sub ((.cons rfl .nil))
      refine Ends.ret1 Try.func9 Try.results9 hA rfl ?_
      exact ⟨rfl, hM.nilL.below⟩
set_option maxRecDepth 100000 in
set_option maxHeartbeats 400000 in
theorem poolKeeps_1 (b : Int) (ad : Option Addr) (nr cap0 : Nat) (ol : List Int) (hln : nr = ol.length) (w : World) (hsl : IntSl w (.slice ad nr cap0) ol) :
    Calls Try.prog 9 #[.int .i64 1, .slice ad nr cap0, .int .i64 b] w fun e w' => e = .returned (.bool true) ∧ Below w.heap.size w w' := by
  have hM := Mem.start w
  refine Calls.of_ends (vs := [.int .i64 1, .slice ad nr cap0, .int .i64 b]) Try.func9 rfl Try.ntmps9 rfl ?_
  intro a hA
  replace hA : St 124 [(0, _), (1, _), (2, _)] a := hA
  refine Ends.seq ?_
  refine Ends.region ?_
  refine S.val hA (R.assign rfl) rfl ?_; clear hA a; intro a hA
  refine S.done ?_
  replace hA : St 124 [(0, _), (1, _), (2, _), (6, _)] a := hA.sub ((.cons rfl (.cons rfl (.cons rfl (.cons rfl .nil)))))
  refine Ends.seq ?_
  refine Ends.region ?_
  refine S.call hA (R.callF Try.func42 rfl rfl rfl) rfl (pfresh_any 5 1 (by first | omega | decide | (simp; done) | (simp; omega)) (by first | omega | decide | (simp; done) | (simp; omega)) _) ?_; clear hA a
  rintro e w1 ⟨q1, m2, c3, nb4, ob5, op6, rfl, hm2c3, hn⟩
  replace hM : Mem _ _ [pt q1 #[.pointer (some ⟨m2, 0, none⟩), .int .i64 3, .slice (some ⟨nb4, 0, none⟩) 5 5, .slice (some ⟨ob5, 0, none⟩) 1 1] 128, pt nb4 ((madeCells #[.slice none 0 0, .int .i64 0] (5 * 2))) 77, pt ob5 #[.slice none 0 0] 43, memO m2 c3 (linkL (List.replicate (3 + (5 + 1) : Int).toNat 0) 3 5 (5 : Int).toNat) (0 + 1 + 5) op6] _ := hM.call hn; clear hn
  refine ⟨.tuple #[.pointer (some ⟨q1, 0, none⟩), .pointer (some ⟨m2, 0, none⟩), .bool true], rfl, fun a hA => ?_⟩
  refine S.val hA (R.move rfl) rfl ?_; clear hA a; intro a hA
  refine S.val hA (R.extract (v := .pointer (some ⟨q1, 0, none⟩)) rfl rfl) rfl ?_; clear hA a; intro a hA
  refine S.val hA (R.extract (v := .pointer (some ⟨m2, 0, none⟩)) rfl rfl) rfl ?_; clear hA a; intro a hA
  refine S.val hA (R.extract (v := .bool true) rfl rfl) rfl ?_; clear hA a; intro a hA
  refine S.val hA (R.assign rfl) rfl ?_; clear hA a; intro a hA
  refine S.val hA (R.assign rfl) rfl ?_; clear hA a; intro a hA
  refine S.val hA (R.assign rfl) rfl ?_; clear hA a; intro a hA
  refine S.done ?_
  replace hA : St 124 [(0, _), (1, _), (2, _), (6, _), (7, _), (9, _)] a := hA.sub ((.cons rfl (.cons rfl (.cons rfl (.cons rfl (.cons rfl (.cons rfl .nil)))))))
  refine Ends.seq ?_
  rw [made10] at hM
  replace hM : Mem _ _ [pt q1 #[.pointer (some ⟨m2, 0, none⟩), .int .i64 3, .slice (some ⟨nb4, 0, none⟩) 5 5, .slice (some ⟨ob5, 0, none⟩) 1 1] 128, pt nb4 #[.slice none 0 0, .int .i64 0, .slice none 0 0, .int .i64 0, .slice none 0 0, .int .i64 0, .slice none 0 0, .int .i64 0, .slice none 0 0, .int .i64 0] 77, pt ob5 #[.slice none 0 0] 43, memO m2 c3 (linkL (List.replicate (3 + (5 + 1) : Int).toNat 0) 3 5 (5 : Int).toNat) (0 + 1 + 5) op6] _ := hM
  refine Ends.region ?_
  refine S.buildSl0 hA hM Try.underlying43 info3 rfl ?_; clear hA hM a; intro b7 w2 hb8 hM a hA
  replace hM : Mem _ _ [pt b7 #[] 3, pt q1 #[.pointer (some ⟨m2, 0, none⟩), .int .i64 3, .slice (some ⟨nb4, 0, none⟩) 5 5, .slice (some ⟨ob5, 0, none⟩) 1 1] 128, pt nb4 #[.slice none 0 0, .int .i64 0, .slice none 0 0, .int .i64 0, .slice none 0 0, .int .i64 0, .slice none 0 0, .int .i64 0, .slice none 0 0, .int .i64 0] 77, pt ob5 #[.slice none 0 0] 43, memO m2 c3 (linkL (List.replicate (3 + (5 + 1) : Int).toNat 0) 3 5 (5 : Int).toNat) (0 + 1 + 5) op6] _ := hM
  replace hM := hM.ownPt (cap := 0) (n := 0) (sz := 1) (xs := []) rfl (by decide) (by decide) rfl
  replace hM : Mem _ _ [own 3 1 (.slice (some ⟨b7, 0, none⟩) 0 0) 0 ((([] : List Int)).map (Value.int .i64)), pt q1 #[.pointer (some ⟨m2, 0, none⟩), .int .i64 3, .slice (some ⟨nb4, 0, none⟩) 5 5, .slice (some ⟨ob5, 0, none⟩) 1 1] 128, pt nb4 #[.slice none 0 0, .int .i64 0, .slice none 0 0, .int .i64 0, .slice none 0 0, .int .i64 0, .slice none 0 0, .int .i64 0, .slice none 0 0, .int .i64 0] 77, pt ob5 #[.slice none 0 0] 43, memO m2 c3 (linkL (List.replicate (3 + (5 + 1) : Int).toNat 0) 3 5 (5 : Int).toNat) (0 + 1 + 5) op6] _ := hM
  refine S.val hA (R.move rfl) rfl ?_; clear hA a; intro a hA
  refine S.val hA (R.move rfl) rfl ?_; clear hA a; intro a hA
  refine S.val hA (R.lenS Try.underlying43 rfl rfl) rfl ?_; clear hA a; intro a hA
  refine S.val hA (R.min rfl rfl) rfl ?_; clear hA a; intro a hA
  have hcl0 := hsl.len
  obtain ⟨X, hX, hXl⟩ : ∃ X : List Int, IntSl w (.slice ad X.length cap0) X ∧ (X.length : Int) = min (nr : Int) 70 := by
    have hcl := hsl.len
    refine ⟨ol.take (min nr 70), ?_, by rw [List.length_take]; omega⟩
    have := hsl.cut (min nr 70) (by omega)
    rwa [show (ol.take (min nr 70)).length = min nr 70 by rw [List.length_take]; omega]
  refine S.val hA (R.sliceH (h := X.length) Try.underlying43 info3 rfl rfl (by first | omega | (simp; done)) (by first | omega | (simp; done))) rfl ?_; clear hA a; intro a hA
  refine S.appendI (k := 0) hA hM rfl (hX.mem hM) Try.underlying43 info3 rfl rfl rfl rfl rfl rfl (by show 0 + X.length ≤ 9223372036854775807; omega) (by show (0 + X.length) * 8 ≤ _; omega) rfl ?_; clear hA hM a; intro a9 c10 w3 hM a hA
  rw [Nat.zero_add, List.map_nil, List.nil_append] at hM; rw [Nat.zero_add] at hA
  replace hM : Mem _ _ [own 3 1 (.slice a9 X.length c10) X.length (X.map (Value.int .i64)), pt q1 #[.pointer (some ⟨m2, 0, none⟩), .int .i64 3, .slice (some ⟨nb4, 0, none⟩) 5 5, .slice (some ⟨ob5, 0, none⟩) 1 1] 128, pt nb4 #[.slice none 0 0, .int .i64 0, .slice none 0 0, .int .i64 0, .slice none 0 0, .int .i64 0, .slice none 0 0, .int .i64 0, .slice none 0 0, .int .i64 0] 77, pt ob5 #[.slice none 0 0] 43, memO m2 c3 (linkL (List.replicate (3 + (5 + 1) : Int).toNat 0) 3 5 (5 : Int).toNat) (0 + 1 + 5) op6] _ := hM
  refine S.val hA (R.assign rfl) rfl ?_; clear hA a; intro a hA
  refine S.done ?_
  replace hA : St 124 [(0, _), (1, _), (2, _), (6, _), (7, _), (9, _)] a := hA.sub ((.cons rfl (.cons rfl (.cons rfl (.cons rfl (.cons rfl (.cons rfl .nil)))))))
  refine Ends.seq ?_
  refine Ends.seq ?_
  refine Ends.region ?_
  refine S.call hA (R.callF Try.func43 rfl rfl rfl) rfl (ppools_any _) ?_; clear hA a
  rintro e w4 ⟨rfl, hb⟩
  replace hM := hM.callB hb; clear hb
  refine ⟨.bool true, rfl, fun a hA => ?_⟩
  refine S.val hA (R.not rfl) rfl ?_; clear hA a; intro a hA
  refine S.val hA (R.move rfl) rfl ?_; clear hA a; intro a hA
  refine S.valg (dj := 28) hA (by kernel_rfl) rfl (R.move rfl) rfl ?_; clear hA a; intro a hA
  refine S.valg (dj := 28) hA (by kernel_rfl) rfl (R.not rfl) rfl ?_; clear hA a; intro a hA
  refine S.val hA (R.pickF rfl rfl) rfl ?_; clear hA a; intro a hA
  refine S.done ?_
  replace hA : St 124 [(0, _), (1, _), (2, _), (6, _), (7, _), (31, _)] a := hA.sub ((.cons rfl (.cons rfl (.cons rfl (.cons rfl (.cons rfl (.cons rfl .nil)))))))
  refine Ends.condF hA rfl ?_
  refine Ends.skip ?_
  refine Ends.seq ?_
  refine Ends.region ?_
  refine S.buildSl0 hA hM Try.underlying43 info3 rfl ?_; clear hA hM a; intro b11 w5 hb12 hM a hA
  replace hM : Mem _ _ [pt b11 #[] 3, own 3 1 (.slice a9 X.length c10) X.length (X.map (Value.int .i64)), pt q1 #[.pointer (some ⟨m2, 0, none⟩), .int .i64 3, .slice (some ⟨nb4, 0, none⟩) 5 5, .slice (some ⟨ob5, 0, none⟩) 1 1] 128, pt nb4 #[.slice none 0 0, .int .i64 0, .slice none 0 0, .int .i64 0, .slice none 0 0, .int .i64 0, .slice none 0 0, .int .i64 0, .slice none 0 0, .int .i64 0] 77, pt ob5 #[.slice none 0 0] 43, memO m2 c3 (linkL (List.replicate (3 + (5 + 1) : Int).toNat 0) 3 5 (5 : Int).toNat) (0 + 1 + 5) op6] _ := hM
  replace hM := hM.ownPt (cap := 0) (n := 0) (sz := 1) (xs := []) rfl (by decide) (by decide) rfl
  replace hM : Mem _ _ [own 3 1 (.slice (some ⟨b11, 0, none⟩) 0 0) 0 ((([] : List Int)).map (Value.int .i64)), own 3 1 (.slice a9 X.length c10) X.length (X.map (Value.int .i64)), pt q1 #[.pointer (some ⟨m2, 0, none⟩), .int .i64 3, .slice (some ⟨nb4, 0, none⟩) 5 5, .slice (some ⟨ob5, 0, none⟩) 1 1] 128, pt nb4 #[.slice none 0 0, .int .i64 0, .slice none 0 0, .int .i64 0, .slice none 0 0, .int .i64 0, .slice none 0 0, .int .i64 0, .slice none 0 0, .int .i64 0] 77, pt ob5 #[.slice none 0 0] 43, memO m2 c3 (linkL (List.replicate (3 + (5 + 1) : Int).toNat 0) 3 5 (5 : Int).toNat) (0 + 1 + 5) op6] _ := hM
  refine S.val hA (R.move rfl) rfl ?_; clear hA a; intro a hA
  refine S.appendI (k := 0) hA hM rfl (hM.intSl (k := 1) rfl) Try.underlying43 info3 rfl rfl rfl rfl rfl rfl (by show 0 + X.length ≤ 9223372036854775807; omega) (by show (0 + X.length) * 8 ≤ _; omega) rfl ?_; clear hA hM a; intro a13 c14 w6 hM a hA
  rw [Nat.zero_add, List.map_nil, List.nil_append] at hM; rw [Nat.zero_add] at hA
  replace hM : Mem _ _ [own 3 1 (.slice a13 X.length c14) X.length (X.map (Value.int .i64)), own 3 1 (.slice a9 X.length c10) X.length (X.map (Value.int .i64)), pt q1 #[.pointer (some ⟨m2, 0, none⟩), .int .i64 3, .slice (some ⟨nb4, 0, none⟩) 5 5, .slice (some ⟨ob5, 0, none⟩) 1 1] 128, pt nb4 #[.slice none 0 0, .int .i64 0, .slice none 0 0, .int .i64 0, .slice none 0 0, .int .i64 0, .slice none 0 0, .int .i64 0, .slice none 0 0, .int .i64 0] 77, pt ob5 #[.slice none 0 0] 43, memO m2 c3 (linkL (List.replicate (3 + (5 + 1) : Int).toNat 0) 3 5 (5 : Int).toNat) (0 + 1 + 5) op6] _ := hM
  refine S.val hA (R.assign rfl) rfl ?_; clear hA a; intro a hA
  refine S.done ?_
  replace hA : St 124 [(0, _), (1, _), (2, _), (6, _), (7, _), (10, _)] a := hA.sub ((.cons rfl (.cons rfl (.cons rfl (.cons rfl (.cons rfl (.cons rfl .nil)))))))
  refine Ends.seq ?_
  refine Ends.region ?_
  refine S.val hA (R.move rfl) rfl ?_; clear hA a; intro a hA
  refine S.val hA (R.move rfl) rfl ?_; clear hA a; intro a hA
  refine S.val hA (R.move rfl) rfl ?_; clear hA a; intro a hA
  refine S.val hA (R.move rfl) rfl ?_; clear hA a; intro a hA
  refine S.val hA (R.build (cells := #[.slice a9 X.length c10, .int .i64 b]) rfl (by kernel_rfl)) rfl ?_; clear hA a; intro a hA
  replace hM := hM.front (k := 1) rfl
  replace hM := hM.front (k := 3) rfl
  replace hM := hM.front (k := 3) rfl
  replace hM : Mem _ _ [pt q1 #[.pointer (some ⟨m2, 0, none⟩), .int .i64 3, .slice (some ⟨nb4, 0, none⟩) 5 5, .slice (some ⟨ob5, 0, none⟩) 1 1] 128, pt nb4 #[.slice none 0 0, .int .i64 0, .slice none 0 0, .int .i64 0, .slice none 0 0, .int .i64 0, .slice none 0 0, .int .i64 0, .slice none 0 0, .int .i64 0] 77, own 3 1 (.slice a9 X.length c10) X.length (X.map (Value.int .i64)), own 3 1 (.slice a13 X.length c14) X.length (X.map (Value.int .i64)), pt ob5 #[.slice none 0 0] 43, memO m2 c3 (linkL (List.replicate (3 + (5 + 1) : Int).toNat 0) 3 5 (5 : Int).toNat) (0 + 1 + 5) op6] _ := hM
  refine S.call hA (R.callF Try.func44 rfl rfl rfl) rfl (pkeep_1 q1 m2 nb4 ob5 1 3 a9 X c10 b (by omega) _ (hM.hereN 3)) ?_; clear hA a
  rintro e w7 ⟨a15, c16, rfl, hn⟩
  replace hM : Mem _ _ [pt q1 #[.pointer (some ⟨m2, 0, none⟩), .int .i64 3, .slice (some ⟨nb4, 0, none⟩) 5 5, .slice (some ⟨ob5, 0, none⟩) 1 1] 128, pt nb4 #[.slice none 0 0, .int .i64 0, .slice a15 X.length c16, .int .i64 b, .slice none 0 0, .int .i64 0, .slice none 0 0, .int .i64 0, .slice none 0 0, .int .i64 0] 77, own 3 1 (.slice a9 X.length c10) X.length (X.map (Value.int .i64)), own 3 1 (.slice a15 X.length c16) X.length (X.map (Value.int .i64)), own 3 1 (.slice a13 X.length c14) X.length (X.map (Value.int .i64)), pt ob5 #[.slice none 0 0] 43, memO m2 c3 (linkL (List.replicate (3 + (5 + 1) : Int).toNat 0) 3 5 (5 : Int).toNat) (0 + 1 + 5) op6] _ := hM.callL 3 hn; clear hn
  refine ⟨.tuple #[], rfl, fun a hA => ?_⟩
  refine S.done ?_
  replace hA : St 124 [(0, _), (1, _), (2, _), (6, _), (7, _), (10, _)] a := hA.sub ((.cons rfl (.cons rfl (.cons rfl (.cons rfl (.cons rfl (.cons rfl .nil)))))))
  refine Ends.seq ?_
  refine Ends.seq ?_
  refine Ends.region ?_
  refine S.val hA (R.assign rfl) rfl ?_; clear hA a; intro a hA
  refine S.done ?_
  replace hA : St 124 [(0, _), (1, _), (2, _), (6, _), (7, _), (10, _), (11, _)] a := hA.sub ((.cons rfl (.cons rfl (.cons rfl (.cons rfl (.cons rfl (.cons rfl (.cons rfl .nil))))))))
  refine Ends.block ?_
  refine Ends.loop (σ := Nat × List Int × Option Addr) (fun (k, Z11, az1) (a : Act) (wv : World) => St 124 [(0, .int .i64 1), (1, .slice az1 X.length c10), (2, .int .i64 b), (6, .bool false), (7, .pointer (some ⟨q1, 0, none⟩)), (10, .slice a13 X.length c14), (11, .int .i64 ((k : Int)))] a ∧ Mem w nof [pt q1 #[.pointer (some ⟨m2, 0, none⟩), .int .i64 3, .slice (some ⟨nb4, 0, none⟩) 5 5, .slice (some ⟨ob5, 0, none⟩) 1 1] 128, pt nb4 #[.slice none 0 0, .int .i64 0, .slice a15 X.length c16, .int .i64 b, .slice none 0 0, .int .i64 0, .slice none 0 0, .int .i64 0, .slice none 0 0, .int .i64 0] 77, own 3 1 (.slice az1 X.length c10) X.length (Z11.map (Value.int .i64)), own 3 1 (.slice a15 X.length c16) X.length (X.map (Value.int .i64)), own 3 1 (.slice a13 X.length c14) X.length (X.map (Value.int .i64)), pt ob5 #[.slice none 0 0] 43, memO m2 c3 (linkL (List.replicate (3 + (5 + 1) : Int).toNat 0) 3 5 (5 : Int).toNat) (0 + 1 + 5) op6] wv ∧ (k ≤ X.length) ∧ (Z11.length = X.length)) (fun (k, Z11, az1) => X.length - k) ((0, X, a9)) ⟨hA.sub ((.cons rfl (.cons rfl (.cons rfl (.cons rfl (.cons rfl (.cons rfl (.cons rfl .nil)))))))), hM, (by omega), rfl⟩ ?_
  clear hA hM a
  rintro ⟨k, Z11, az1⟩ a w8 ⟨hA, hM, hk, hZ11⟩ hNext
  refine Ends.seq ?_
  refine Ends.seq ?_
  refine Ends.region ?_
  refine S.val hA (R.move rfl) rfl ?_; clear hA a; intro a hA
  refine S.val hA (R.move rfl) rfl ?_; clear hA a; intro a hA
  refine S.val hA (R.lenS Try.underlying43 rfl rfl) rfl ?_; clear hA a; intro a hA
  refine S.val hA (R.lss rfl rfl) rfl ?_; clear hA a; intro a hA
  refine S.done ?_
  replace hA : St 124 [(0, _), (1, _), (2, _), (6, _), (7, _), (10, _), (11, _), (41, _), (42, _), (43, _), (44, _)] a := hA.sub ((.cons rfl (.cons rfl (.cons rfl (.cons rfl (.cons rfl (.cons rfl (.cons rfl (.cons rfl (.cons rfl (.cons rfl (.cons rfl .nil))))))))))))
  refine Ends.ite hA rfl (fun hc17 => ?_) (fun hc17 => ?_)
  ·
    refine Ends.skip ?_
    refine Ends.seq ?_
    refine Ends.block ?_
    obtain ⟨gz, hgz⟩ := hM.ownAt (k := 2) rfl (by omega)
    subst hgz
    replace hM : Mem _ _ [pt q1 #[.pointer (some ⟨m2, 0, none⟩), .int .i64 3, .slice (some ⟨nb4, 0, none⟩) 5 5, .slice (some ⟨ob5, 0, none⟩) 1 1] 128, pt nb4 #[.slice none 0 0, .int .i64 0, .slice a15 X.length c16, .int .i64 b, .slice none 0 0, .int .i64 0, .slice none 0 0, .int .i64 0, .slice none 0 0, .int .i64 0] 77, own 3 1 (.slice (some ⟨gz, 0, none⟩) X.length c10) X.length (Z11.map (Value.int .i64)), own 3 1 (.slice a15 X.length c16) X.length (X.map (Value.int .i64)), own 3 1 (.slice a13 X.length c14) X.length (X.map (Value.int .i64)), pt ob5 #[.slice none 0 0] 43, memO m2 c3 (linkL (List.replicate (3 + (5 + 1) : Int).toNat 0) 3 5 (5 : Int).toNat) (0 + 1 + 5) op6] _ := hM
    refine Ends.region ?_
    refine S.val hA (R.move rfl) rfl ?_; clear hA a; intro a hA
    refine S.val hA (R.move rfl) rfl ?_; clear hA a; intro a hA
    refine S.val hA (R.move rfl) rfl ?_; clear hA a; intro a hA
    refine S.val hA (R.move rfl) rfl ?_; clear hA a; intro a hA
    refine S.val hA (R.indexAddr (q := k) sl43 rfl rfl (by first | omega | (simp; done)) (by first | omega | (simp; done))) rfl ?_; clear hA a; intro a hA
    refine S.val hA (R.load sz3 rfl (hM.ownCell (k := 2) rfl (mapi_get _ _ (by first | omega | (simp; done))))) rfl ?_; clear hA a; intro a hA
    refine S.val hA (R.bits (by simp) rfl rfl) rfl ?_; clear hA a; intro a hA
    refine S.val hA (R.indexAddr (q := k) sl43 rfl rfl (by first | omega | (simp; done)) (by first | omega | (simp; done))) rfl ?_; clear hA a; intro a hA
    refine S.storeO (k := 2) hA hM sz3 rfl rfl rfl rfl (mapi_get Z11 k (by first | omega | (simp; done))) ?_; clear hM; intro w9 hM; rw [mapi_set] at hM
    replace hM : Mem _ _ [pt q1 #[.pointer (some ⟨m2, 0, none⟩), .int .i64 3, .slice (some ⟨nb4, 0, none⟩) 5 5, .slice (some ⟨ob5, 0, none⟩) 1 1] 128, pt nb4 #[.slice none 0 0, .int .i64 0, .slice a15 X.length c16, .int .i64 b, .slice none 0 0, .int .i64 0, .slice none 0 0, .int .i64 0, .slice none 0 0, .int .i64 0] 77, own 3 1 (.slice (some ⟨gz, 0, none⟩) X.length c10) X.length (((Z11.set k (bits .xor .i64 (Z11.getD k 0) 3))).map (Value.int .i64)), own 3 1 (.slice a15 X.length c16) X.length (X.map (Value.int .i64)), own 3 1 (.slice a13 X.length c14) X.length (X.map (Value.int .i64)), pt ob5 #[.slice none 0 0] 43, memO m2 c3 (linkL (List.replicate (3 + (5 + 1) : Int).toNat 0) 3 5 (5 : Int).toNat) (0 + 1 + 5) op6] _ := hM
    refine S.done ?_
    replace hA : St 124 [(0, _), (1, _), (2, _), (6, _), (7, _), (10, _), (11, _), (41, _), (42, _), (43, _), (44, _), (47, _), (48, _), (49, _), (50, _), (51, _), (52, _), (53, _), (54, _)] a := hA.sub ((.cons rfl (.cons rfl (.cons rfl (.cons rfl (.cons rfl (.cons rfl (.cons rfl (.cons rfl (.cons rfl (.cons rfl (.cons rfl (.cons rfl (.cons rfl (.cons rfl (.cons rfl (.cons rfl (.cons rfl (.cons rfl (.cons rfl .nil))))))))))))))))))))
    refine Ends.inBlock ?_
    refine Ends.region ?_
    refine S.val hA (R.move rfl) rfl ?_; clear hA a; intro a hA
    refine S.val hA (R.addI rfl rfl (r := ((k : Int)) + 1) rfl (by first | omega | (simp; done))) rfl ?_; clear hA a; intro a hA
    refine S.val hA (R.assign rfl) rfl ?_; clear hA a; intro a hA
    refine S.done ?_
    replace hA : St 124 [(0, _), (1, _), (2, _), (6, _), (7, _), (10, _), (11, _), (41, _), (42, _), (43, _), (44, _), (45, _), (46, _), (47, _), (48, _), (49, _), (50, _), (51, _), (52, _), (53, _), (54, _)] a := hA.sub ((.cons rfl (.cons rfl (.cons rfl (.cons rfl (.cons rfl (.cons rfl (.cons rfl (.cons rfl (.cons rfl (.cons rfl (.cons rfl (.cons rfl (.cons rfl (.cons rfl (.cons rfl (.cons rfl (.cons rfl (.cons rfl (.cons rfl (.cons rfl (.cons rfl .nil))))))))))))))))))))))
    exact hNext ((k + 1, (Z11.set k (bits .xor .i64 (Z11.getD k 0) 3)), some ⟨gz, 0, none⟩)) _ _ ((by show X.length - (k + 1) < X.length - k; omega)) ⟨hA.sub ((.cons rfl (.cons rfl (.cons rfl (.cons rfl (.cons rfl (.cons rfl (.cons rfl .nil)))))))), hM, (by omega), (by rw [List.length_set]; exact hZ11)⟩
  ·
    refine Ends.exit rfl ?_
    replace hA : St 124 [(0, _), (2, _), (6, _), (7, _), (10, _)] a := hA.sub ((.cons rfl (.cons rfl (.cons rfl (.cons rfl (.cons rfl .nil))))))
    refine Ends.seq ?_
    refine Ends.region ?_
    refine S.val hA (R.move rfl) rfl ?_; clear hA a; intro a hA
    refine S.val hA (R.move rfl) rfl ?_; clear hA a; intro a hA
    replace hM := hM.front (k := 3) rfl
    replace hM := hM.front (k := 2) rfl
    replace hM := hM.front (k := 2) rfl
    replace hM : Mem _ _ [pt q1 #[.pointer (some ⟨m2, 0, none⟩), .int .i64 3, .slice (some ⟨nb4, 0, none⟩) 5 5, .slice (some ⟨ob5, 0, none⟩) 1 1] 128, pt nb4 #[.slice none 0 0, .int .i64 0, .slice a15 X.length c16, .int .i64 b, .slice none 0 0, .int .i64 0, .slice none 0 0, .int .i64 0, .slice none 0 0, .int .i64 0] 77, own 3 1 (.slice a15 X.length c16) X.length (X.map (Value.int .i64)), own 3 1 (.slice az1 X.length c10) X.length (Z11.map (Value.int .i64)), own 3 1 (.slice a13 X.length c14) X.length (X.map (Value.int .i64)), pt ob5 #[.slice none 0 0] 43, memO m2 c3 (linkL (List.replicate (3 + (5 + 1) : Int).toNat 0) 3 5 (5 : Int).toNat) (0 + 1 + 5) op6] _ := hM
    refine S.call hA (R.callF Try.func45 rfl rfl rfl) rfl (pnode_ok q1 m2 nb4 5 ob5 1 3 1 [.slice none 0 0, .int .i64 0, .slice a15 X.length c16, .int .i64 b, .slice none 0 0, .int .i64 0, .slice none 0 0, .int .i64 0, .slice none 0 0, .int .i64 0] a15 X c16 b (by first | omega | decide | (simp; done) | (simp; omega)) (by decide) rfl _ (hM.hereN 3)) ?_; clear hA a
    rintro e w10 ⟨a18, c19, rfl, hn⟩
    replace hM : Mem _ _ [own 3 1 (.slice a18 X.length c19) X.length (X.map (Value.int .i64)), pt q1 #[.pointer (some ⟨m2, 0, none⟩), .int .i64 3, .slice (some ⟨nb4, 0, none⟩) 5 5, .slice (some ⟨ob5, 0, none⟩) 1 1] 128, pt nb4 #[.slice none 0 0, .int .i64 0, .slice a15 X.length c16, .int .i64 b, .slice none 0 0, .int .i64 0, .slice none 0 0, .int .i64 0, .slice none 0 0, .int .i64 0] 77, own 3 1 (.slice a15 X.length c16) X.length (X.map (Value.int .i64)), own 3 1 (.slice az1 X.length c10) X.length (Z11.map (Value.int .i64)), own 3 1 (.slice a13 X.length c14) X.length (X.map (Value.int .i64)), pt ob5 #[.slice none 0 0] 43, memO m2 c3 (linkL (List.replicate (3 + (5 + 1) : Int).toNat 0) 3 5 (5 : Int).toNat) (0 + 1 + 5) op6] _ := hM.callL 3 hn; clear hn
    refine ⟨.agg #[.slice a18 X.length c19, .int .i64 b], rfl, fun a hA => ?_⟩
    refine S.alloc hA hM info77 rfl rfl ?_; clear hA hM a; intro b20 w11 hb21 hM a hA
    replace hM : Mem _ _ [pt b20 #[.slice none 0 0, .int .i64 0] 77, own 3 1 (.slice a18 X.length c19) X.length (X.map (Value.int .i64)), pt q1 #[.pointer (some ⟨m2, 0, none⟩), .int .i64 3, .slice (some ⟨nb4, 0, none⟩) 5 5, .slice (some ⟨ob5, 0, none⟩) 1 1] 128, pt nb4 #[.slice none 0 0, .int .i64 0, .slice a15 X.length c16, .int .i64 b, .slice none 0 0, .int .i64 0, .slice none 0 0, .int .i64 0, .slice none 0 0, .int .i64 0] 77, own 3 1 (.slice a15 X.length c16) X.length (X.map (Value.int .i64)), own 3 1 (.slice az1 X.length c10) X.length (Z11.map (Value.int .i64)), own 3 1 (.slice a13 X.length c14) X.length (X.map (Value.int .i64)), pt ob5 #[.slice none 0 0] 43, memO m2 c3 (linkL (List.replicate (3 + (5 + 1) : Int).toNat 0) 3 5 (5 : Int).toNat) (0 + 1 + 5) op6] _ := hM
    refine S.storeA (k := 0) hA hM sz77 rfl rfl rfl rfl rfl rfl ?_; clear hM
    intro w12 hM
    replace hM : Mem _ _ [pt b20 #[.slice a18 X.length c19, .int .i64 b] 77, own 3 1 (.slice a18 X.length c19) X.length (X.map (Value.int .i64)), pt q1 #[.pointer (some ⟨m2, 0, none⟩), .int .i64 3, .slice (some ⟨nb4, 0, none⟩) 5 5, .slice (some ⟨ob5, 0, none⟩) 1 1] 128, pt nb4 #[.slice none 0 0, .int .i64 0, .slice a15 X.length c16, .int .i64 b, .slice none 0 0, .int .i64 0, .slice none 0 0, .int .i64 0, .slice none 0 0, .int .i64 0] 77, own 3 1 (.slice a15 X.length c16) X.length (X.map (Value.int .i64)), own 3 1 (.slice az1 X.length c10) X.length (Z11.map (Value.int .i64)), own 3 1 (.slice a13 X.length c14) X.length (X.map (Value.int .i64)), pt ob5 #[.slice none 0 0] 43, memO m2 c3 (linkL (List.replicate (3 + (5 + 1) : Int).toNat 0) 3 5 (5 : Int).toNat) (0 + 1 + 5) op6] _ := hM
    refine S.done ?_
    replace hA : St 124 [(0, _), (2, _), (6, _), (7, _), (10, _), (12, _)] a := hA.sub ((.cons rfl (.cons rfl (.cons rfl (.cons rfl (.cons rfl (.cons rfl .nil)))))))
    refine Ends.seq ?_
    refine Ends.seq ?_
    refine Ends.region ?_
    refine S.val hA (R.move rfl) rfl ?_; clear hA a; intro a hA
    refine S.val hA (R.ff (R.lss rfl rfl) (by first | decide | simp | omega)) rfl ?_; clear hA a; intro a hA
    refine S.val hA (R.move rfl) rfl ?_; clear hA a; intro a hA
    refine S.valg (dj := 60) hA (by kernel_rfl) rfl (R.move rfl) rfl ?_; clear hA a; intro a hA
    refine S.valg (dj := 60) hA (by kernel_rfl) rfl (R.ff (R.geq rfl rfl) (by first | decide | simp | omega)) rfl ?_; clear hA a; intro a hA
    refine S.val hA (R.pickF rfl rfl) rfl ?_; clear hA a; intro a hA
    refine S.done ?_
    replace hA : St 124 [(0, _), (2, _), (6, _), (7, _), (10, _), (12, _), (63, _)] a := hA.sub ((.cons rfl (.cons rfl (.cons rfl (.cons rfl (.cons rfl (.cons rfl (.cons rfl .nil))))))))
    refine Ends.condF hA rfl ?_
    refine Ends.skip ?_
    refine Ends.seq ?_
    refine Ends.seq ?_
    refine Ends.region ?_
    refine S.val hA (R.fieldAddr (q := 0) fi77_0 rfl rfl rfl) rfl ?_; clear hA a; intro a hA
    refine S.val hA (R.load sz43 rfl (hM.cell (k := 0) rfl rfl)) rfl ?_; clear hA a; intro a hA
    refine S.val hA (R.move rfl) rfl ?_; clear hA a; intro a hA
    refine S.call hA (R.callF Try.func40 rfl rfl rfl) rfl (same09_eq (.slice a18 X.length c19) (.slice a13 X.length c14) X _ (hM.intSl (k := 1) rfl) (hM.intSl (k := 6) rfl)) ?_; clear hA a
    rintro e w13 ⟨rfl, hb⟩
    replace hM := hM.callB hb; clear hb
    refine ⟨.bool true, rfl, fun a hA => ?_⟩
    refine S.val hA (R.not rfl) rfl ?_; clear hA a; intro a hA
    refine S.val hA (R.move rfl) rfl ?_; clear hA a; intro a hA
    refine S.valg (dj := 78) hA (by kernel_rfl) rfl (R.fieldAddr (q := 1) fi77_1 rfl rfl rfl) rfl ?_; clear hA a; intro a hA
    refine S.valg (dj := 78) hA (by kernel_rfl) rfl (R.load sz3 rfl (hM.cell (k := 0) rfl rfl)) rfl ?_; clear hA a; intro a hA
    refine S.valg (dj := 78) hA (by kernel_rfl) rfl (R.move rfl) rfl ?_; clear hA a; intro a hA
    refine S.valg (dj := 78) hA (by kernel_rfl) rfl (R.ff (R.neq rfl rfl) (by first | omega | (simp; done))) rfl ?_; clear hA a; intro a hA
    refine S.val hA (R.pickF rfl rfl) rfl ?_; clear hA a; intro a hA
    refine S.val hA (R.move rfl) rfl ?_; clear hA a; intro a hA
    refine S.valg (dj := 84) hA (by kernel_rfl) rfl (R.move rfl) rfl ?_; clear hA a; intro a hA
    refine S.valg (dj := 84) hA (by kernel_rfl) rfl (R.move rfl) rfl ?_; clear hA a; intro a hA
    replace hM := hM.front (k := 3) rfl
    replace hM := hM.front (k := 3) rfl
    replace hM : Mem _ _ [pt q1 #[.pointer (some ⟨m2, 0, none⟩), .int .i64 3, .slice (some ⟨nb4, 0, none⟩) 5 5, .slice (some ⟨ob5, 0, none⟩) 1 1] 128, pt nb4 #[.slice none 0 0, .int .i64 0, .slice a15 X.length c16, .int .i64 b, .slice none 0 0, .int .i64 0, .slice none 0 0, .int .i64 0, .slice none 0 0, .int .i64 0] 77, pt b20 #[.slice a18 X.length c19, .int .i64 b] 77, own 3 1 (.slice a18 X.length c19) X.length (X.map (Value.int .i64)), own 3 1 (.slice a15 X.length c16) X.length (X.map (Value.int .i64)), own 3 1 (.slice az1 X.length c10) X.length (Z11.map (Value.int .i64)), own 3 1 (.slice a13 X.length c14) X.length (X.map (Value.int .i64)), pt ob5 #[.slice none 0 0] 43, memO m2 c3 (linkL (List.replicate (3 + (5 + 1) : Int).toNat 0) 3 5 (5 : Int).toNat) (0 + 1 + 5) op6] _ := hM
    refine S.callg (dj := 84) hA (by kernel_rfl) rfl (R.callF Try.func46 rfl rfl rfl) rfl (pbound_ok q1 m2 nb4 5 ob5 1 3 1 [.slice none 0 0, .int .i64 0, .slice a15 X.length c16, .int .i64 b, .slice none 0 0, .int .i64 0, .slice none 0 0, .int .i64 0, .slice none 0 0, .int .i64 0] b (by decide) rfl _ (hM.hereN 2)) ?_; clear hA a
    rintro e w14 ⟨rfl, hn⟩
    replace hM : Mem _ _ [pt q1 #[.pointer (some ⟨m2, 0, none⟩), .int .i64 3, .slice (some ⟨nb4, 0, none⟩) 5 5, .slice (some ⟨ob5, 0, none⟩) 1 1] 128, pt nb4 #[.slice none 0 0, .int .i64 0, .slice a15 X.length c16, .int .i64 b, .slice none 0 0, .int .i64 0, .slice none 0 0, .int .i64 0, .slice none 0 0, .int .i64 0] 77, pt b20 #[.slice a18 X.length c19, .int .i64 b] 77, own 3 1 (.slice a18 X.length c19) X.length (X.map (Value.int .i64)), own 3 1 (.slice a15 X.length c16) X.length (X.map (Value.int .i64)), own 3 1 (.slice az1 X.length c10) X.length (Z11.map (Value.int .i64)), own 3 1 (.slice a13 X.length c14) X.length (X.map (Value.int .i64)), pt ob5 #[.slice none 0 0] 43, memO m2 c3 (linkL (List.replicate (3 + (5 + 1) : Int).toNat 0) 3 5 (5 : Int).toNat) (0 + 1 + 5) op6] _ := hM.callL 2 hn; clear hn
    refine ⟨.int .i64 b, rfl, fun a hA => ?_⟩
    refine S.valg (dj := 84) hA (by kernel_rfl) rfl (R.move rfl) rfl ?_; clear hA a; intro a hA
    refine S.valg (dj := 84) hA (by kernel_rfl) rfl (R.ff (R.neq rfl rfl) (by first | omega | (simp; done))) rfl ?_; clear hA a; intro a hA
    refine S.val hA (R.pickF rfl rfl) rfl ?_; clear hA a; intro a hA
    refine S.done ?_
    replace hA : St 124 [(0, _), (6, _), (7, _), (10, _), (12, _), (90, _)] a := hA.sub ((.cons rfl (.cons rfl (.cons rfl (.cons rfl (.cons rfl (.cons rfl .nil)))))))
    refine Ends.condF hA rfl ?_
    refine Ends.skip ?_
    refine Ends.seq ?_
    refine Ends.seq ?_
    refine Ends.region ?_
    refine S.val hA (R.assign rfl) rfl ?_; clear hA a; intro a hA
    refine S.done ?_
    replace hA : St 124 [(0, _), (6, _), (7, _), (10, _), (12, _), (13, _)] a := hA.sub ((.cons rfl (.cons rfl (.cons rfl (.cons rfl (.cons rfl (.cons rfl .nil)))))))
    refine Ends.block ?_
    refine Ends.loop (σ := Nat × List Int × Option Addr) (fun (k, Z13, az2) (a : Act) (wv : World) => St 124 [(0, .int .i64 1), (6, .bool false), (7, .pointer (some ⟨q1, 0, none⟩)), (10, .slice a13 X.length c14), (12, .pointer (some ⟨b20, 0, none⟩)), (13, .int .i64 ((k : Int)))] a ∧ Mem w nof [pt q1 #[.pointer (some ⟨m2, 0, none⟩), .int .i64 3, .slice (some ⟨nb4, 0, none⟩) 5 5, .slice (some ⟨ob5, 0, none⟩) 1 1] 128, pt nb4 #[.slice none 0 0, .int .i64 0, .slice a15 X.length c16, .int .i64 b, .slice none 0 0, .int .i64 0, .slice none 0 0, .int .i64 0, .slice none 0 0, .int .i64 0] 77, pt b20 #[.slice az2 X.length c19, .int .i64 b] 77, own 3 1 (.slice az2 X.length c19) X.length (Z13.map (Value.int .i64)), own 3 1 (.slice a15 X.length c16) X.length (X.map (Value.int .i64)), own 3 1 (.slice az1 X.length c10) X.length (Z11.map (Value.int .i64)), own 3 1 (.slice a13 X.length c14) X.length (X.map (Value.int .i64)), pt ob5 #[.slice none 0 0] 43, memO m2 c3 (linkL (List.replicate (3 + (5 + 1) : Int).toNat 0) 3 5 (5 : Int).toNat) (0 + 1 + 5) op6] wv ∧ (k ≤ X.length) ∧ (Z13.length = X.length)) (fun (k, Z13, az2) => X.length - k) ((0, X, a18)) ⟨hA.sub ((.cons rfl (.cons rfl (.cons rfl (.cons rfl (.cons rfl (.cons rfl .nil))))))), hM, (by omega), rfl⟩ ?_
    clear hA hM a
    rintro ⟨k, Z13, az2⟩ a w15 ⟨hA, hM, hk, hZ13⟩ hNext1
    refine Ends.seq ?_
    refine Ends.seq ?_
    refine Ends.region ?_
    refine S.val hA (R.move rfl) rfl ?_; clear hA a; intro a hA
    refine S.val hA (R.fieldAddr (q := 0) fi77_0 rfl rfl rfl) rfl ?_; clear hA a; intro a hA
    refine S.val hA (R.load sz43 rfl (hM.cell (k := 2) rfl rfl)) rfl ?_; clear hA a; intro a hA
    refine S.val hA (R.lenS Try.underlying43 rfl rfl) rfl ?_; clear hA a; intro a hA
    refine S.val hA (R.lss rfl rfl) rfl ?_; clear hA a; intro a hA
    refine S.done ?_
    replace hA : St 124 [(0, _), (6, _), (7, _), (10, _), (12, _), (13, _), (91, _), (92, _), (93, _), (94, _), (95, _)] a := hA.sub ((.cons rfl (.cons rfl (.cons rfl (.cons rfl (.cons rfl (.cons rfl (.cons rfl (.cons rfl (.cons rfl (.cons rfl (.cons rfl .nil))))))))))))
    refine Ends.ite hA rfl (fun hc22 => ?_) (fun hc22 => ?_)
    ·
      refine Ends.skip ?_
      refine Ends.seq ?_
      refine Ends.block ?_
      obtain ⟨gz, hgz⟩ := hM.ownAt (k := 3) rfl (by omega)
      subst hgz
      replace hM : Mem _ _ [pt q1 #[.pointer (some ⟨m2, 0, none⟩), .int .i64 3, .slice (some ⟨nb4, 0, none⟩) 5 5, .slice (some ⟨ob5, 0, none⟩) 1 1] 128, pt nb4 #[.slice none 0 0, .int .i64 0, .slice a15 X.length c16, .int .i64 b, .slice none 0 0, .int .i64 0, .slice none 0 0, .int .i64 0, .slice none 0 0, .int .i64 0] 77, pt b20 #[.slice (some ⟨gz, 0, none⟩) X.length c19, .int .i64 b] 77, own 3 1 (.slice (some ⟨gz, 0, none⟩) X.length c19) X.length (Z13.map (Value.int .i64)), own 3 1 (.slice a15 X.length c16) X.length (X.map (Value.int .i64)), own 3 1 (.slice az1 X.length c10) X.length (Z11.map (Value.int .i64)), own 3 1 (.slice a13 X.length c14) X.length (X.map (Value.int .i64)), pt ob5 #[.slice none 0 0] 43, memO m2 c3 (linkL (List.replicate (3 + (5 + 1) : Int).toNat 0) 3 5 (5 : Int).toNat) (0 + 1 + 5) op6] _ := hM
      refine Ends.drawn (Mem w nof [pt q1 #[.pointer (some ⟨m2, 0, none⟩), .int .i64 3, .slice (some ⟨nb4, 0, none⟩) 5 5, .slice (some ⟨ob5, 0, none⟩) 1 1] 128, pt nb4 #[.slice none 0 0, .int .i64 0, .slice a15 X.length c16, .int .i64 b, .slice none 0 0, .int .i64 0, .slice none 0 0, .int .i64 0, .slice none 0 0, .int .i64 0] 77, pt b20 #[.slice (some ⟨gz, 0, none⟩) X.length c19, .int .i64 b] 77, own 3 1 (.slice (some ⟨gz, 0, none⟩) X.length c19) X.length (Z13.map (Value.int .i64)), own 3 1 (.slice a15 X.length c16) X.length (X.map (Value.int .i64)), own 3 1 (.slice az1 X.length c10) X.length (Z11.map (Value.int .i64)), own 3 1 (.slice a13 X.length c14) X.length (X.map (Value.int .i64)), pt ob5 #[.slice none 0 0] 43]) (.cons (0, true) (.cons (1, true) (.cons (2, true) (.cons (3, true) (.cons (4, true) (.cons (5, true) (.cons (6, true) (.cons (7, true) (.cons (8, true) (.cons (9, true) (.cons (10, false) .nil))))))))))) 10 mixed (by kernel_rfl) (by kernel_rfl) (by kernel_rfl) (hM.drop 8).drew ?_
      replace hM := hM.drew
      refine D.valF hA rfl (fun _ => R.fieldAddr (q := 0) fi77_0 rfl rfl rfl) rfl ?_; clear hA a; intro a hA
      refine D.val hA rfl (by kernel_rfl) (fun _ hM => R.load sz43 rfl (hM.cell (k := 2) rfl rfl)) rfl ?_; clear hA a; intro a hA
      refine D.valF hA rfl (fun _ => R.move rfl) rfl ?_; clear hA a; intro a hA
      refine D.valF hA rfl (fun _ => R.fieldAddr (q := 0) fi77_0 rfl rfl rfl) rfl ?_; clear hA a; intro a hA
      refine D.val hA rfl (by kernel_rfl) (fun _ hM => R.load sz43 rfl (hM.cell (k := 2) rfl rfl)) rfl ?_; clear hA a; intro a hA
      refine D.valF hA rfl (fun _ => R.move rfl) rfl ?_; clear hA a; intro a hA
      refine D.valF hA rfl (fun _ => R.indexAddr (q := k) sl43 rfl rfl (by first | omega | (simp; done)) (by first | omega | (simp; done))) rfl ?_; clear hA a; intro a hA
      refine D.val hA rfl (by kernel_rfl) (fun _ hM => R.load sz3 rfl (hM.ownCell (k := 3) rfl (mapi_get _ _ (by first | omega | (simp; done))))) rfl ?_; clear hA a; intro a hA
      refine D.valF hA rfl (fun _ => R.bits (by simp) rfl rfl) rfl ?_; clear hA a; intro a hA
      refine D.valF hA rfl (fun _ => R.indexAddr (q := k) sl43 rfl rfl (by first | omega | (simp; done)) (by first | omega | (simp; done))) rfl ?_; clear hA a; intro a hA
      refine D.storeO (k := 3) hA hM rfl sz3 rfl rfl rfl rfl (mapi_get Z13 k (by first | omega | (simp; done))) ?_; clear hM; intro w16 hM; rw [mapi_set] at hM
      refine ⟨fun hne => absurd rfl hne, ?_⟩
      replace hM : Mem _ _ [pt q1 #[.pointer (some ⟨m2, 0, none⟩), .int .i64 3, .slice (some ⟨nb4, 0, none⟩) 5 5, .slice (some ⟨ob5, 0, none⟩) 1 1] 128, pt nb4 #[.slice none 0 0, .int .i64 0, .slice a15 X.length c16, .int .i64 b, .slice none 0 0, .int .i64 0, .slice none 0 0, .int .i64 0, .slice none 0 0, .int .i64 0] 77, pt b20 #[.slice (some ⟨gz, 0, none⟩) X.length c19, .int .i64 b] 77, own 3 1 (.slice (some ⟨gz, 0, none⟩) X.length c19) X.length (((Z13.set k (bits .xor .i64 (Z13.getD k 0) 3))).map (Value.int .i64)), own 3 1 (.slice a15 X.length c16) X.length (X.map (Value.int .i64)), own 3 1 (.slice az1 X.length c10) X.length (Z11.map (Value.int .i64)), own 3 1 (.slice a13 X.length c14) X.length (X.map (Value.int .i64)), pt ob5 #[.slice none 0 0] 43, memO m2 c3 (linkL (List.replicate (3 + (5 + 1) : Int).toNat 0) 3 5 (5 : Int).toNat) (0 + 1 + 5) op6] _ := hM
      refine D.done ?_
      replace hA : St 124 [(0, _), (6, _), (7, _), (10, _), (12, _), (13, _), (91, _), (92, _), (93, _), (94, _), (95, _), (98, _), (99, _), (100, _), (101, _), (102, _), (103, _), (104, _), (105, _), (106, _), (107, _)] a := hA.sub ((.cons rfl (.cons rfl (.cons rfl (.cons rfl (.cons rfl (.cons rfl (.cons rfl (.cons rfl (.cons rfl (.cons rfl (.cons rfl (.cons rfl (.cons rfl (.cons rfl (.cons rfl (.cons rfl (.cons rfl (.cons rfl (.cons rfl (.cons rfl (.cons rfl .nil))))))))))))))))))))))
      refine Ends.inBlock ?_
      refine Ends.region ?_
      refine S.val hA (R.move rfl) rfl ?_; clear hA a; intro a hA
      refine S.val hA (R.addI rfl rfl (r := ((k : Int)) + 1) rfl (by first | omega | (simp; done))) rfl ?_; clear hA a; intro a hA
      refine S.val hA (R.assign rfl) rfl ?_; clear hA a; intro a hA
      refine S.done ?_
      replace hA : St 124 [(0, _), (6, _), (7, _), (10, _), (12, _), (13, _), (91, _), (92, _), (93, _), (94, _), (95, _), (96, _), (97, _), (98, _), (99, _), (100, _), (101, _), (102, _), (103, _), (104, _), (105, _), (106, _), (107, _)] a := hA.sub ((.cons rfl (.cons rfl (.cons rfl (.cons rfl (.cons rfl (.cons rfl (.cons rfl (.cons rfl (.cons rfl (.cons rfl (.cons rfl (.cons rfl (.cons rfl (.cons rfl (.cons rfl (.cons rfl (.cons rfl (.cons rfl (.cons rfl (.cons rfl (.cons rfl (.cons rfl (.cons rfl .nil))))))))))))))))))))))))
      exact hNext1 ((k + 1, (Z13.set k (bits .xor .i64 (Z13.getD k 0) 3)), some ⟨gz, 0, none⟩)) _ _ ((by show X.length - (k + 1) < X.length - k; omega)) ⟨hA.sub ((.cons rfl (.cons rfl (.cons rfl (.cons rfl (.cons rfl (.cons rfl .nil))))))), hM, (by omega), (by rw [List.length_set]; exact hZ13)⟩
    ·
      refine Ends.exit rfl ?_
      replace hA : St 124 [(0, _), (6, _), (7, _), (10, _)] a := hA.sub ((.cons rfl (.cons rfl (.cons rfl (.cons rfl .nil)))))
      refine Ends.seq ?_
      refine Ends.region ?_
      refine S.val hA (R.move rfl) rfl ?_; clear hA a; intro a hA
      refine S.val hA (R.move rfl) rfl ?_; clear hA a; intro a hA
      replace hM := hM.front (k := 4) rfl
      replace hM := hM.front (k := 2) rfl
      replace hM := hM.front (k := 2) rfl
      replace hM : Mem _ _ [pt q1 #[.pointer (some ⟨m2, 0, none⟩), .int .i64 3, .slice (some ⟨nb4, 0, none⟩) 5 5, .slice (some ⟨ob5, 0, none⟩) 1 1] 128, pt nb4 #[.slice none 0 0, .int .i64 0, .slice a15 X.length c16, .int .i64 b, .slice none 0 0, .int .i64 0, .slice none 0 0, .int .i64 0, .slice none 0 0, .int .i64 0] 77, own 3 1 (.slice a15 X.length c16) X.length (X.map (Value.int .i64)), pt b20 #[.slice az2 X.length c19, .int .i64 b] 77, own 3 1 (.slice az2 X.length c19) X.length (Z13.map (Value.int .i64)), own 3 1 (.slice az1 X.length c10) X.length (Z11.map (Value.int .i64)), own 3 1 (.slice a13 X.length c14) X.length (X.map (Value.int .i64)), pt ob5 #[.slice none 0 0] 43, memO m2 c3 (linkL (List.replicate (3 + (5 + 1) : Int).toNat 0) 3 5 (5 : Int).toNat) (0 + 1 + 5) op6] _ := hM
      refine S.call hA (R.callF Try.func45 rfl rfl rfl) rfl (pnode_ok q1 m2 nb4 5 ob5 1 3 1 [.slice none 0 0, .int .i64 0, .slice a15 X.length c16, .int .i64 b, .slice none 0 0, .int .i64 0, .slice none 0 0, .int .i64 0, .slice none 0 0, .int .i64 0] a15 X c16 b (by first | omega | decide | (simp; done) | (simp; omega)) (by decide) rfl _ (hM.hereN 3)) ?_; clear hA a
      rintro e w17 ⟨a23, c24, rfl, hn⟩
      replace hM : Mem _ _ [own 3 1 (.slice a23 X.length c24) X.length (X.map (Value.int .i64)), pt q1 #[.pointer (some ⟨m2, 0, none⟩), .int .i64 3, .slice (some ⟨nb4, 0, none⟩) 5 5, .slice (some ⟨ob5, 0, none⟩) 1 1] 128, pt nb4 #[.slice none 0 0, .int .i64 0, .slice a15 X.length c16, .int .i64 b, .slice none 0 0, .int .i64 0, .slice none 0 0, .int .i64 0, .slice none 0 0, .int .i64 0] 77, own 3 1 (.slice a15 X.length c16) X.length (X.map (Value.int .i64)), pt b20 #[.slice az2 X.length c19, .int .i64 b] 77, own 3 1 (.slice az2 X.length c19) X.length (Z13.map (Value.int .i64)), own 3 1 (.slice az1 X.length c10) X.length (Z11.map (Value.int .i64)), own 3 1 (.slice a13 X.length c14) X.length (X.map (Value.int .i64)), pt ob5 #[.slice none 0 0] 43, memO m2 c3 (linkL (List.replicate (3 + (5 + 1) : Int).toNat 0) 3 5 (5 : Int).toNat) (0 + 1 + 5) op6] _ := hM.callL 3 hn; clear hn
      refine ⟨.agg #[.slice a23 X.length c24, .int .i64 b], rfl, fun a hA => ?_⟩
      refine S.val hA (R.field fi77_0 rfl rfl) rfl ?_; clear hA a; intro a hA
      refine S.val hA (R.move rfl) rfl ?_; clear hA a; intro a hA
      refine S.call hA (R.callF Try.func40 rfl rfl rfl) rfl (same09_eq (.slice a23 X.length c24) (.slice a13 X.length c14) X _ (hM.intSl (k := 0) rfl) (hM.intSl (k := 7) rfl)) ?_; clear hA a
      rintro e w18 ⟨rfl, hb⟩
      replace hM := hM.callB hb; clear hb
      refine ⟨.bool true, rfl, fun a hA => ?_⟩
      refine S.val hA (R.move rfl) rfl ?_; clear hA a; intro a hA
      refine S.valg (dj := 114) hA (by kernel_rfl) rfl (R.move rfl) rfl ?_; clear hA a; intro a hA
      refine S.valg (dj := 114) hA (by kernel_rfl) rfl (R.move rfl) rfl ?_; clear hA a; intro a hA
      refine S.valg (dj := 114) hA (by kernel_rfl) rfl (R.addI rfl rfl (r := 2) rfl (by first | omega | (simp; done))) rfl ?_; clear hA a; intro a hA
      refine S.valg (dj := 114) hA (by kernel_rfl) rfl (R.to (v := .int .i64 2) (R.remI rfl rfl rfl (by decide)) (congrArg (Value.int .i64) (by decide))) rfl ?_; clear hA a; intro a hA
      replace hM := hM.ownNil 3 1
      replace hM : Mem _ _ [own 3 1 (.slice none ((([] : List Int)).length) 0) ((([] : List Int)).length) ((([] : List Int)).map (Value.int .i64)), own 3 1 (.slice a23 X.length c24) X.length (X.map (Value.int .i64)), pt q1 #[.pointer (some ⟨m2, 0, none⟩), .int .i64 3, .slice (some ⟨nb4, 0, none⟩) 5 5, .slice (some ⟨ob5, 0, none⟩) 1 1] 128, pt nb4 #[.slice none 0 0, .int .i64 0, .slice a15 X.length c16, .int .i64 b, .slice none 0 0, .int .i64 0, .slice none 0 0, .int .i64 0, .slice none 0 0, .int .i64 0] 77, own 3 1 (.slice a15 X.length c16) X.length (X.map (Value.int .i64)), pt b20 #[.slice az2 X.length c19, .int .i64 b] 77, own 3 1 (.slice az2 X.length c19) X.length (Z13.map (Value.int .i64)), own 3 1 (.slice az1 X.length c10) X.length (Z11.map (Value.int .i64)), own 3 1 (.slice a13 X.length c14) X.length (X.map (Value.int .i64)), pt ob5 #[.slice none 0 0] 43, memO m2 c3 (linkL (List.replicate (3 + (5 + 1) : Int).toNat 0) 3 5 (5 : Int).toNat) (0 + 1 + 5) op6] _ := hM
      replace hM := hM.front (k := 3) rfl
      replace hM := hM.front (k := 3) rfl
      replace hM : Mem _ _ [pt q1 #[.pointer (some ⟨m2, 0, none⟩), .int .i64 3, .slice (some ⟨nb4, 0, none⟩) 5 5, .slice (some ⟨ob5, 0, none⟩) 1 1] 128, pt nb4 #[.slice none 0 0, .int .i64 0, .slice a15 X.length c16, .int .i64 b, .slice none 0 0, .int .i64 0, .slice none 0 0, .int .i64 0, .slice none 0 0, .int .i64 0] 77, own 3 1 (.slice none ((([] : List Int)).length) 0) ((([] : List Int)).length) ((([] : List Int)).map (Value.int .i64)), own 3 1 (.slice a23 X.length c24) X.length (X.map (Value.int .i64)), own 3 1 (.slice a15 X.length c16) X.length (X.map (Value.int .i64)), pt b20 #[.slice az2 X.length c19, .int .i64 b] 77, own 3 1 (.slice az2 X.length c19) X.length (Z13.map (Value.int .i64)), own 3 1 (.slice az1 X.length c10) X.length (Z11.map (Value.int .i64)), own 3 1 (.slice a13 X.length c14) X.length (X.map (Value.int .i64)), pt ob5 #[.slice none 0 0] 43, memO m2 c3 (linkL (List.replicate (3 + (5 + 1) : Int).toNat 0) 3 5 (5 : Int).toNat) (0 + 1 + 5) op6] _ := hM
      refine S.callg (dj := 114) hA (by kernel_rfl) rfl (R.callF Try.func45 rfl rfl rfl) rfl (pnode_ok q1 m2 nb4 5 ob5 1 3 2 [.slice none 0 0, .int .i64 0, .slice a15 X.length c16, .int .i64 b, .slice none 0 0, .int .i64 0, .slice none 0 0, .int .i64 0, .slice none 0 0, .int .i64 0] none (([] : List Int)) 0 0 (by first | omega | decide | (simp; done) | (simp; omega)) (by decide) rfl _ (hM.hereN 3)) ?_; clear hA a
      rintro e w19 ⟨a25, c26, rfl, hn⟩
      replace hM : Mem _ _ [own 3 1 (.slice a25 ((([] : List Int)).length) c26) ((([] : List Int)).length) ((([] : List Int)).map (Value.int .i64)), pt q1 #[.pointer (some ⟨m2, 0, none⟩), .int .i64 3, .slice (some ⟨nb4, 0, none⟩) 5 5, .slice (some ⟨ob5, 0, none⟩) 1 1] 128, pt nb4 #[.slice none 0 0, .int .i64 0, .slice a15 X.length c16, .int .i64 b, .slice none 0 0, .int .i64 0, .slice none 0 0, .int .i64 0, .slice none 0 0, .int .i64 0] 77, own 3 1 (.slice none ((([] : List Int)).length) 0) ((([] : List Int)).length) ((([] : List Int)).map (Value.int .i64)), own 3 1 (.slice a23 X.length c24) X.length (X.map (Value.int .i64)), own 3 1 (.slice a15 X.length c16) X.length (X.map (Value.int .i64)), pt b20 #[.slice az2 X.length c19, .int .i64 b] 77, own 3 1 (.slice az2 X.length c19) X.length (Z13.map (Value.int .i64)), own 3 1 (.slice az1 X.length c10) X.length (Z11.map (Value.int .i64)), own 3 1 (.slice a13 X.length c14) X.length (X.map (Value.int .i64)), pt ob5 #[.slice none 0 0] 43, memO m2 c3 (linkL (List.replicate (3 + (5 + 1) : Int).toNat 0) 3 5 (5 : Int).toNat) (0 + 1 + 5) op6] _ := hM.callL 3 hn; clear hn
      refine ⟨.agg #[.slice a25 ((([] : List Int)).length) c26, .int .i64 0], rfl, fun a hA => ?_⟩
      refine S.valg (dj := 114) hA (by kernel_rfl) rfl (R.field fi77_0 rfl rfl) rfl ?_; clear hA a; intro a hA
      refine S.valg (dj := 114) hA (by kernel_rfl) rfl (R.lenS Try.underlying43 rfl rfl) rfl ?_; clear hA a; intro a hA
      refine S.valg (dj := 114) hA (by kernel_rfl) rfl (R.eql rfl rfl) rfl ?_; clear hA a; intro a hA
      refine S.val hA (R.pickT rfl rfl) rfl ?_; clear hA a; intro a hA
      refine S.val hA (R.assign rfl) rfl ?_; clear hA a; intro a hA
      refine S.done ?_
      replace hA : St 124 [(6, _)] a := hA.sub ((.cons rfl .nil))
      refine Ends.ret1 Try.func9 Try.results9 hA rfl ?_
      exact ⟨rfl, hM.nilL.below⟩
set_option maxRecDepth 100000 in
set_option maxHeartbeats 400000 in
theorem poolKeeps_2 (b : Int) (ad : Option Addr) (nr cap0 : Nat) (ol : List Int) (hln : nr = ol.length) (w : World) (hsl : IntSl w (.slice ad nr cap0) ol) :
    Calls Try.prog 9 #[.int .i64 2, .slice ad nr cap0, .int .i64 b] w fun e w' => e = .returned (.bool true) ∧ Below w.heap.size w w' := by
  have hM := Mem.start w
  refine Calls.of_ends (vs := [.int .i64 2, .slice ad nr cap0, .int .i64 b]) Try.func9 rfl Try.ntmps9 rfl ?_
  intro a hA
  replace hA : St 124 [(0, _), (1, _), (2, _)] a := hA
  refine Ends.seq ?_
  refine Ends.region ?_
  refine S.val hA (R.assign rfl) rfl ?_; clear hA a; intro a hA
  refine S.done ?_
  replace hA : St 124 [(0, _), (1, _), (2, _), (6, _)] a := hA.sub ((.cons rfl (.cons rfl (.cons rfl (.cons rfl .nil)))))
  refine Ends.seq ?_
  refine Ends.region ?_
  refine S.call hA (R.callF Try.func42 rfl rfl rfl) rfl (pfresh_any 5 1 (by first | omega | decide | (simp; done) | (simp; omega)) (by first | omega | decide | (simp; done) | (simp; omega)) _) ?_; clear hA a
  rintro e w1 ⟨q1, m2, c3, nb4, ob5, op6, rfl, hm2c3, hn⟩
  replace hM : Mem _ _ [pt q1 #[.pointer (some ⟨m2, 0, none⟩), .int .i64 3, .slice (some ⟨nb4, 0, none⟩) 5 5, .slice (some ⟨ob5, 0, none⟩) 1 1] 128, pt nb4 ((madeCells #[.slice none 0 0, .int .i64 0] (5 * 2))) 77, pt ob5 #[.slice none 0 0] 43, memO m2 c3 (linkL (List.replicate (3 + (5 + 1) : Int).toNat 0) 3 5 (5 : Int).toNat) (0 + 1 + 5) op6] _ := hM.call hn; clear hn
  refine ⟨.tuple #[.pointer (some ⟨q1, 0, none⟩), .pointer (some ⟨m2, 0, none⟩), .bool true], rfl, fun a hA => ?_⟩
  refine S.val hA (R.move rfl) rfl ?_; clear hA a; intro a hA
  refine S.val hA (R.extract (v := .pointer (some ⟨q1, 0, none⟩)) rfl rfl) rfl ?_; clear hA a; intro a hA
  refine S.val hA (R.extract (v := .pointer (some ⟨m2, 0, none⟩)) rfl rfl) rfl ?_; clear hA a; intro a hA
  refine S.val hA (R.extract (v := .bool true) rfl rfl) rfl ?_; clear hA a; intro a hA
  refine S.val hA (R.assign rfl) rfl ?_; clear hA a; intro a hA
  refine S.val hA (R.assign rfl) rfl ?_; clear hA a; intro a hA
  refine S.val hA (R.assign rfl) rfl ?_; clear hA a; intro a hA
  refine S.done ?_
  replace hA : St 124 [(0, _), (1, _), (2, _), (6, _), (7, _), (9, _)] a := hA.sub ((.cons rfl (.cons rfl (.cons rfl (.cons rfl (.cons rfl (.cons rfl .nil)))))))
  refine Ends.seq ?_
  rw [made10] at hM
  replace hM : Mem _ _ [pt q1 #[.pointer (some ⟨m2, 0, none⟩), .int .i64 3, .slice (some ⟨nb4, 0, none⟩) 5 5, .slice (some ⟨ob5, 0, none⟩) 1 1] 128, pt nb4 #[.slice none 0 0, .int .i64 0, .slice none 0 0, .int .i64 0, .slice none 0 0, .int .i64 0, .slice none 0 0, .int .i64 0, .slice none 0 0, .int .i64 0] 77, pt ob5 #[.slice none 0 0] 43, memO m2 c3 (linkL (List.replicate (3 + (5 + 1) : Int).toNat 0) 3 5 (5 : Int).toNat) (0 + 1 + 5) op6] _ := hM
  refine Ends.region ?_
  refine S.buildSl0 hA hM Try.underlying43 info3 rfl ?_; clear hA hM a; intro b7 w2 hb8 hM a hA
  replace hM : Mem _ _ [pt b7 #[] 3, pt q1 #[.pointer (some ⟨m2, 0, none⟩), .int .i64 3, .slice (some ⟨nb4, 0, none⟩) 5 5, .slice (some ⟨ob5, 0, none⟩) 1 1] 128, pt nb4 #[.slice none 0 0, .int .i64 0, .slice none 0 0, .int .i64 0, .slice none 0 0, .int .i64 0, .slice none 0 0, .int .i64 0, .slice none 0 0, .int .i64 0] 77, pt ob5 #[.slice none 0 0] 43, memO m2 c3 (linkL (List.replicate (3 + (5 + 1) : Int).toNat 0) 3 5 (5 : Int).toNat) (0 + 1 + 5) op6] _ := hM
  replace hM := hM.ownPt (cap := 0) (n := 0) (sz := 1) (xs := []) rfl (by decide) (by decide) rfl
  replace hM : Mem _ _ [own 3 1 (.slice (some ⟨b7, 0, none⟩) 0 0) 0 ((([] : List Int)).map (Value.int .i64)), pt q1 #[.pointer (some ⟨m2, 0, none⟩), .int .i64 3, .slice (some ⟨nb4, 0, none⟩) 5 5, .slice (some ⟨ob5, 0, none⟩) 1 1] 128, pt nb4 #[.slice none 0 0, .int .i64 0, .slice none 0 0, .int .i64 0, .slice none 0 0, .int .i64 0, .slice none 0 0, .int .i64 0, .slice none 0 0, .int .i64 0] 77, pt ob5 #[.slice none 0 0] 43, memO m2 c3 (linkL (List.replicate (3 + (5 + 1) : Int).toNat 0) 3 5 (5 : Int).toNat) (0 + 1 + 5) op6] _ := hM
  refine S.val hA (R.move rfl) rfl ?_; clear hA a; intro a hA
  refine S.val hA (R.move rfl) rfl ?_; clear hA a; intro a hA
  refine S.val hA (R.lenS Try.underlying43 rfl rfl) rfl ?_; clear hA a; intro a hA
  refine S.val hA (R.min rfl rfl) rfl ?_; clear hA a; intro a hA
  have hcl0 := hsl.len
  obtain ⟨X, hX, hXl⟩ : ∃ X : List Int, IntSl w (.slice ad X.length cap0) X ∧ (X.length : Int) = min (nr : Int) 70 := by
    have hcl := hsl.len
    refine ⟨ol.take (min nr 70), ?_, by rw [List.length_take]; omega⟩
    have := hsl.cut (min nr 70) (by omega)
    rwa [show (ol.take (min nr 70)).length = min nr 70 by rw [List.length_take]; omega]
  refine S.val hA (R.sliceH (h := X.length) Try.underlying43 info3 rfl rfl (by first | omega | (simp; done)) (by first | omega | (simp; done))) rfl ?_; clear hA a; intro a hA
  refine S.appendI (k := 0) hA hM rfl (hX.mem hM) Try.underlying43 info3 rfl rfl rfl rfl rfl rfl (by show 0 + X.length ≤ 9223372036854775807; omega) (by show (0 + X.length) * 8 ≤ _; omega) rfl ?_; clear hA hM a; intro a9 c10 w3 hM a hA
  rw [Nat.zero_add, List.map_nil, List.nil_append] at hM; rw [Nat.zero_add] at hA
  replace hM : Mem _ _ [own 3 1 (.slice a9 X.length c10) X.length (X.map (Value.int .i64)), pt q1 #[.pointer (some ⟨m2, 0, none⟩), .int .i64 3, .slice (some ⟨nb4, 0, none⟩) 5 5, .slice (some ⟨ob5, 0, none⟩) 1 1] 128, pt nb4 #[.slice none 0 0, .int .i64 0, .slice none 0 0, .int .i64 0, .slice none 0 0, .int .i64 0, .slice none 0 0, .int .i64 0, .slice none 0 0, .int .i64 0] 77, pt ob5 #[.slice none 0 0] 43, memO m2 c3 (linkL (List.replicate (3 + (5 + 1) : Int).toNat 0) 3 5 (5 : Int).toNat) (0 + 1 + 5) op6] _ := hM
  refine S.val hA (R.assign rfl) rfl ?_; clear hA a; intro a hA
  refine S.done ?_
  replace hA : St 124 [(0, _), (1, _), (2, _), (6, _), (7, _), (9, _)] a := hA.sub ((.cons rfl (.cons rfl (.cons rfl (.cons rfl (.cons rfl (.cons rfl .nil)))))))
  refine Ends.seq ?_
  refine Ends.seq ?_
  refine Ends.region ?_
  refine S.call hA (R.callF Try.func43 rfl rfl rfl) rfl (ppools_any _) ?_; clear hA a
  rintro e w4 ⟨rfl, hb⟩
  replace hM := hM.callB hb; clear hb
  refine ⟨.bool true, rfl, fun a hA => ?_⟩
  refine S.val hA (R.not rfl) rfl ?_; clear hA a; intro a hA
  refine S.val hA (R.move rfl) rfl ?_; clear hA a; intro a hA
  refine S.valg (dj := 28) hA (by kernel_rfl) rfl (R.move rfl) rfl ?_; clear hA a; intro a hA
  refine S.valg (dj := 28) hA (by kernel_rfl) rfl (R.not rfl) rfl ?_; clear hA a; intro a hA
  refine S.val hA (R.pickF rfl rfl) rfl ?_; clear hA a; intro a hA
  refine S.done ?_
  replace hA : St 124 [(0, _), (1, _), (2, _), (6, _), (7, _), (31, _)] a := hA.sub ((.cons rfl (.cons rfl (.cons rfl (.cons rfl (.cons rfl (.cons rfl .nil)))))))
  refine Ends.condF hA rfl ?_
  refine Ends.skip ?_
  refine Ends.seq ?_
  refine Ends.region ?_
  refine S.buildSl0 hA hM Try.underlying43 info3 rfl ?_; clear hA hM a; intro b11 w5 hb12 hM a hA
  replace hM : Mem _ _ [pt b11 #[] 3, own 3 1 (.slice a9 X.length c10) X.length (X.map (Value.int .i64)), pt q1 #[.pointer (some ⟨m2, 0, none⟩), .int .i64 3, .slice (some ⟨nb4, 0, none⟩) 5 5, .slice (some ⟨ob5, 0, none⟩) 1 1] 128, pt nb4 #[.slice none 0 0, .int .i64 0, .slice none 0 0, .int .i64 0, .slice none 0 0, .int .i64 0, .slice none 0 0, .int .i64 0, .slice none 0 0, .int .i64 0] 77, pt ob5 #[.slice none 0 0] 43, memO m2 c3 (linkL (List.replicate (3 + (5 + 1) : Int).toNat 0) 3 5 (5 : Int).toNat) (0 + 1 + 5) op6] _ := hM
  replace hM := hM.ownPt (cap := 0) (n := 0) (sz := 1) (xs := []) rfl (by decide) (by decide) rfl
  replace hM : Mem _ _ [own 3 1 (.slice (some ⟨b11, 0, none⟩) 0 0) 0 ((([] : List Int)).map (Value.int .i64)), own 3 1 (.slice a9 X.length c10) X.length (X.map (Value.int .i64)), pt q1 #[.pointer (some ⟨m2, 0, none⟩), .int .i64 3, .slice (some ⟨nb4, 0, none⟩) 5 5, .slice (some ⟨ob5, 0, none⟩) 1 1] 128, pt nb4 #[.slice none 0 0, .int .i64 0, .slice none 0 0, .int .i64 0, .slice none 0 0, .int .i64 0, .slice none 0 0, .int .i64 0, .slice none 0 0, .int .i64 0] 77, pt ob5 #[.slice none 0 0] 43, memO m2 c3 (linkL (List.replicate (3 + (5 + 1) : Int).toNat 0) 3 5 (5 : Int).toNat) (0 + 1 + 5) op6] _ := hM
  refine S.val hA (R.move rfl) rfl ?_; clear hA a; intro a hA
  refine S.appendI (k := 0) hA hM rfl (hM.intSl (k := 1) rfl) Try.underlying43 info3 rfl rfl rfl rfl rfl rfl (by show 0 + X.length ≤ 9223372036854775807; omega) (by show (0 + X.length) * 8 ≤ _; omega) rfl ?_; clear hA hM a; intro a13 c14 w6 hM a hA
  rw [Nat.zero_add, List.map_nil, List.nil_append] at hM; rw [Nat.zero_add] at hA
  replace hM : Mem _ _ [own 3 1 (.slice a13 X.length c14) X.length (X.map (Value.int .i64)), own 3 1 (.slice a9 X.length c10) X.length (X.map (Value.int .i64)), pt q1 #[.pointer (some ⟨m2, 0, none⟩), .int .i64 3, .slice (some ⟨nb4, 0, none⟩) 5 5, .slice (some ⟨ob5, 0, none⟩) 1 1] 128, pt nb4 #[.slice none 0 0, .int .i64 0, .slice none 0 0, .int .i64 0, .slice none 0 0, .int .i64 0, .slice none 0 0, .int .i64 0, .slice none 0 0, .int .i64 0] 77, pt ob5 #[.slice none 0 0] 43, memO m2 c3 (linkL (List.replicate (3 + (5 + 1) : Int).toNat 0) 3 5 (5 : Int).toNat) (0 + 1 + 5) op6] _ := hM
  refine S.val hA (R.assign rfl) rfl ?_; clear hA a; intro a hA
  refine S.done ?_
  replace hA : St 124 [(0, _), (1, _), (2, _), (6, _), (7, _), (10, _)] a := hA.sub ((.cons rfl (.cons rfl (.cons rfl (.cons rfl (.cons rfl (.cons rfl .nil)))))))
  refine Ends.seq ?_
  refine Ends.region ?_
  refine S.val hA (R.move rfl) rfl ?_; clear hA a; intro a hA
  refine S.val hA (R.move rfl) rfl ?_; clear hA a; intro a hA
  refine S.val hA (R.move rfl) rfl ?_; clear hA a; intro a hA
  refine S.val hA (R.move rfl) rfl ?_; clear hA a; intro a hA
  refine S.val hA (R.build (cells := #[.slice a9 X.length c10, .int .i64 b]) rfl (by kernel_rfl)) rfl ?_; clear hA a; intro a hA
  replace hM := hM.front (k := 1) rfl
  replace hM := hM.front (k := 3) rfl
  replace hM := hM.front (k := 3) rfl
  replace hM : Mem _ _ [pt q1 #[.pointer (some ⟨m2, 0, none⟩), .int .i64 3, .slice (some ⟨nb4, 0, none⟩) 5 5, .slice (some ⟨ob5, 0, none⟩) 1 1] 128, pt nb4 #[.slice none 0 0, .int .i64 0, .slice none 0 0, .int .i64 0, .slice none 0 0, .int .i64 0, .slice none 0 0, .int .i64 0, .slice none 0 0, .int .i64 0] 77, own 3 1 (.slice a9 X.length c10) X.length (X.map (Value.int .i64)), own 3 1 (.slice a13 X.length c14) X.length (X.map (Value.int .i64)), pt ob5 #[.slice none 0 0] 43, memO m2 c3 (linkL (List.replicate (3 + (5 + 1) : Int).toNat 0) 3 5 (5 : Int).toNat) (0 + 1 + 5) op6] _ := hM
  refine S.call hA (R.callF Try.func44 rfl rfl rfl) rfl (pkeep_2 q1 m2 nb4 ob5 1 3 a9 X c10 b (by omega) _ (hM.hereN 3)) ?_; clear hA a
  rintro e w7 ⟨a15, c16, rfl, hn⟩
  replace hM : Mem _ _ [pt q1 #[.pointer (some ⟨m2, 0, none⟩), .int .i64 3, .slice (some ⟨nb4, 0, none⟩) 5 5, .slice (some ⟨ob5, 0, none⟩) 1 1] 128, pt nb4 #[.slice none 0 0, .int .i64 0, .slice none 0 0, .int .i64 0, .slice a15 X.length c16, .int .i64 b, .slice none 0 0, .int .i64 0, .slice none 0 0, .int .i64 0] 77, own 3 1 (.slice a9 X.length c10) X.length (X.map (Value.int .i64)), own 3 1 (.slice a15 X.length c16) X.length (X.map (Value.int .i64)), own 3 1 (.slice a13 X.length c14) X.length (X.map (Value.int .i64)), pt ob5 #[.slice none 0 0] 43, memO m2 c3 (linkL (List.replicate (3 + (5 + 1) : Int).toNat 0) 3 5 (5 : Int).toNat) (0 + 1 + 5) op6] _ := hM.callL 3 hn; clear hn
  refine ⟨.tuple #[], rfl, fun a hA => ?_⟩
  refine S.done ?_
  replace hA : St 124 [(0, _), (1, _), (2, _), (6, _), (7, _), (10, _)] a := hA.sub ((.cons rfl (.cons rfl (.cons rfl (.cons rfl (.cons rfl (.cons rfl .nil)))))))
  refine Ends.seq ?_
  refine Ends.seq ?_
  refine Ends.region ?_
  refine S.val hA (R.assign rfl) rfl ?_; clear hA a; intro a hA
  refine S.done ?_
  replace hA : St 124 [(0, _), (1, _), (2, _), (6, _), (7, _), (10, _), (11, _)] a := hA.sub ((.cons rfl (.cons rfl (.cons rfl (.cons rfl (.cons rfl (.cons rfl (.cons rfl .nil))))))))
  refine Ends.block ?_
  refine Ends.loop (σ := Nat × List Int × Option Addr) (fun (k, Z11, az1) (a : Act) (wv : World) => St 124 [(0, .int .i64 2), (1, .slice az1 X.length c10), (2, .int .i64 b), (6, .bool false), (7, .pointer (some ⟨q1, 0, none⟩)), (10, .slice a13 X.length c14), (11, .int .i64 ((k : Int)))] a ∧ Mem w nof [pt q1 #[.pointer (some ⟨m2, 0, none⟩), .int .i64 3, .slice (some ⟨nb4, 0, none⟩) 5 5, .slice (some ⟨ob5, 0, none⟩) 1 1] 128, pt nb4 #[.slice none 0 0, .int .i64 0, .slice none 0 0, .int .i64 0, .slice a15 X.length c16, .int .i64 b, .slice none 0 0, .int .i64 0, .slice none 0 0, .int .i64 0] 77, own 3 1 (.slice az1 X.length c10) X.length (Z11.map (Value.int .i64)), own 3 1 (.slice a15 X.length c16) X.length (X.map (Value.int .i64)), own 3 1 (.slice a13 X.length c14) X.length (X.map (Value.int .i64)), pt ob5 #[.slice none 0 0] 43, memO m2 c3 (linkL (List.replicate (3 + (5 + 1) : Int).toNat 0) 3 5 (5 : Int).toNat) (0 + 1 + 5) op6] wv ∧ (k ≤ X.length) ∧ (Z11.length = X.length)) (fun (k, Z11, az1) => X.length - k) ((0, X, a9)) ⟨hA.sub ((.cons rfl (.cons rfl (.cons rfl (.cons rfl (.cons rfl (.cons rfl (.cons rfl .nil)))))))), hM, (by omega), rfl⟩ ?_
  clear hA hM a
  rintro ⟨k, Z11, az1⟩ a w8 ⟨hA, hM, hk, hZ11⟩ hNext
  refine Ends.seq ?_
  refine Ends.seq ?_
  refine Ends.region ?_
  refine S.val hA (R.move rfl) rfl ?_; clear hA a; intro a hA
  refine S.val hA (R.move rfl) rfl ?_; clear hA a; intro a hA
  refine S.val hA (R.lenS Try.underlying43 rfl rfl) rfl ?_; clear hA a; intro a hA
  refine S.val hA (R.lss rfl rfl) rfl ?_; clear hA a; intro a hA
  refine S.done ?_
  replace hA : St 124 [(0, _), (1, _), (2, _), (6, _), (7, _), (10, _), (11, _), (41, _), (42, _), (43, _), (44, _)] a := hA.sub ((.cons rfl (.cons rfl (.cons rfl (.cons rfl (.cons rfl (.cons rfl (.cons rfl (.cons rfl (.cons rfl (.cons rfl (.cons rfl .nil))))))))))))
  refine Ends.ite hA rfl (fun hc17 => ?_) (fun hc17 => ?_)
  ·
    refine Ends.skip ?_
    refine Ends.seq ?_
    refine Ends.block ?_
    obtain ⟨gz, hgz⟩ := hM.ownAt (k := 2) rfl (by omega)
    subst hgz
    replace hM : Mem _ _ [pt q1 #[.pointer (some ⟨m2, 0, none⟩), .int .i64 3, .slice (some ⟨nb4, 0, none⟩) 5 5, .slice (some ⟨ob5, 0, none⟩) 1 1] 128, pt nb4 #[.slice none 0 0, .int .i64 0, .slice none 0 0, .int .i64 0, .slice a15 X.length c16, .int .i64 b, .slice none 0 0, .int .i64 0, .slice none 0 0, .int .i64 0] 77, own 3 1 (.slice (some ⟨gz, 0, none⟩) X.length c10) X.length (Z11.map (Value.int .i64)), own 3 1 (.slice a15 X.length c16) X.length (X.map (Value.int .i64)), own 3 1 (.slice a13 X.length c14) X.length (X.map (Value.int .i64)), pt ob5 #[.slice none 0 0] 43, memO m2 c3 (linkL (List.replicate (3 + (5 + 1) : Int).toNat 0) 3 5 (5 : Int).toNat) (0 + 1 + 5) op6] _ := hM
    refine Ends.region ?_
    refine S.val hA (R.move rfl) rfl ?_; clear hA a; intro a hA
    refine S.val hA (R.move rfl) rfl ?_; clear hA a; intro a hA
    refine S.val hA (R.move rfl) rfl ?_; clear hA a; intro a hA
    refine S.val hA (R.move rfl) rfl ?_; clear hA a; intro a hA
    refine S.val hA (R.indexAddr (q := k) sl43 rfl rfl (by first | omega | (simp; done)) (by first | omega | (simp; done))) rfl ?_; clear hA a; intro a hA
    refine S.val hA (R.load sz3 rfl (hM.ownCell (k := 2) rfl (mapi_get _ _ (by first | omega | (simp; done))))) rfl ?_; clear hA a; intro a hA
    refine S.val hA (R.bits (by simp) rfl rfl) rfl ?_; clear hA a; intro a hA
    refine S.val hA (R.indexAddr (q := k) sl43 rfl rfl (by first | omega | (simp; done)) (by first | omega | (simp; done))) rfl ?_; clear hA a; intro a hA
    refine S.storeO (k := 2) hA hM sz3 rfl rfl rfl rfl (mapi_get Z11 k (by first | omega | (simp; done))) ?_; clear hM; intro w9 hM; rw [mapi_set] at hM
    replace hM : Mem _ _ [pt q1 #[.pointer (some ⟨m2, 0, none⟩), .int .i64 3, .slice (some ⟨nb4, 0, none⟩) 5 5, .slice (some ⟨ob5, 0, none⟩) 1 1] 128, pt nb4 #[.slice none 0 0, .int .i64 0, .slice none 0 0, .int .i64 0, .slice a15 X.length c16, .int .i64 b, .slice none 0 0, .int .i64 0, .slice none 0 0, .int .i64 0] 77, own 3 1 (.slice (some ⟨gz, 0, none⟩) X.length c10) X.length (((Z11.set k (bits .xor .i64 (Z11.getD k 0) 3))).map (Value.int .i64)), own 3 1 (.slice a15 X.length c16) X.length (X.map (Value.int .i64)), own 3 1 (.slice a13 X.length c14) X.length (X.map (Value.int .i64)), pt ob5 #[.slice none 0 0] 43, memO m2 c3 (linkL (List.replicate (3 + (5 + 1) : Int).toNat 0) 3 5 (5 : Int).toNat) (0 + 1 + 5) op6] _ := hM
    refine S.done ?_
    replace hA : St 124 [(0, _), (1, _), (2, _), (6, _), (7, _), (10, _), (11, _), (41, _), (42, _), (43, _), (44, _), (47, _), (48, _), (49, _), (50, _), (51, _), (52, _), (53, _), (54, _)] a := hA.sub ((.cons rfl (.cons rfl (.cons rfl (.cons rfl (.cons rfl (.cons rfl (.cons rfl (.cons rfl (.cons rfl (.cons rfl (.cons rfl (.cons rfl (.cons rfl (.cons rfl (.cons rfl (.cons rfl (.cons rfl (.cons rfl (.cons rfl .nil))))))))))))))))))))
    refine Ends.inBlock ?_
    refine Ends.region ?_
    refine S.val hA (R.move rfl) rfl ?_; clear hA a; intro a hA
    refine S.val hA (R.addI rfl rfl (r := ((k : Int)) + 1) rfl (by first | omega | (simp; done))) rfl ?_; clear hA a; intro a hA
    refine S.val hA (R.assign rfl) rfl ?_; clear hA a; intro a hA
    refine S.done ?_
    replace hA : St 124 [(0, _), (1, _), (2, _), (6, _), (7, _), (10, _), (11, _), (41, _), (42, _), (43, _), (44, _), (45, _), (46, _), (47, _), (48, _), (49, _), (50, _), (51, _), (52, _), (53, _), (54, _)] a := hA.sub ((.cons rfl (.cons rfl (.cons rfl (.cons rfl (.cons rfl (.cons rfl (.cons rfl (.cons rfl (.cons rfl (.cons rfl (.cons rfl (.cons rfl (.cons rfl (.cons rfl (.cons rfl (.cons rfl (.cons rfl (.cons rfl (.cons rfl (.cons rfl (.cons rfl .nil))))))))))))))))))))))
    exact hNext ((k + 1, (Z11.set k (bits .xor .i64 (Z11.getD k 0) 3)), some ⟨gz, 0, none⟩)) _ _ ((by show X.length - (k + 1) < X.length - k; omega)) ⟨hA.sub ((.cons rfl (.cons rfl (.cons rfl (.cons rfl (.cons rfl (.cons rfl (.cons rfl .nil)))))))), hM, (by omega), (by rw [List.length_set]; exact hZ11)⟩
  ·
    refine Ends.exit rfl ?_
    replace hA : St 124 [(0, _), (2, _), (6, _), (7, _), (10, _)] a := hA.sub ((.cons rfl (.cons rfl (.cons rfl (.cons rfl (.cons rfl .nil))))))
    refine Ends.seq ?_
    refine Ends.region ?_
    refine S.val hA (R.move rfl) rfl ?_; clear hA a; intro a hA
    refine S.val hA (R.move rfl) rfl ?_; clear hA a; intro a hA
    replace hM := hM.front (k := 3) rfl
    replace hM := hM.front (k := 2) rfl
    replace hM := hM.front (k := 2) rfl
    replace hM : Mem _ _ [pt q1 #[.pointer (some ⟨m2, 0, none⟩), .int .i64 3, .slice (some ⟨nb4, 0, none⟩) 5 5, .slice (some ⟨ob5, 0, none⟩) 1 1] 128, pt nb4 #[.slice none 0 0, .int .i64 0, .slice none 0 0, .int .i64 0, .slice a15 X.length c16, .int .i64 b, .slice none 0 0, .int .i64 0, .slice none 0 0, .int .i64 0] 77, own 3 1 (.slice a15 X.length c16) X.length (X.map (Value.int .i64)), own 3 1 (.slice az1 X.length c10) X.length (Z11.map (Value.int .i64)), own 3 1 (.slice a13 X.length c14) X.length (X.map (Value.int .i64)), pt ob5 #[.slice none 0 0] 43, memO m2 c3 (linkL (List.replicate (3 + (5 + 1) : Int).toNat 0) 3 5 (5 : Int).toNat) (0 + 1 + 5) op6] _ := hM
    refine S.call hA (R.callF Try.func45 rfl rfl rfl) rfl (pnode_ok q1 m2 nb4 5 ob5 1 3 2 [.slice none 0 0, .int .i64 0, .slice none 0 0, .int .i64 0, .slice a15 X.length c16, .int .i64 b, .slice none 0 0, .int .i64 0, .slice none 0 0, .int .i64 0] a15 X c16 b (by first | omega | decide | (simp; done) | (simp; omega)) (by decide) rfl _ (hM.hereN 3)) ?_; clear hA a
    rintro e w10 ⟨a18, c19, rfl, hn⟩
    replace hM : Mem _ _ [own 3 1 (.slice a18 X.length c19) X.length (X.map (Value.int .i64)), pt q1 #[.pointer (some ⟨m2, 0, none⟩), .int .i64 3, .slice (some ⟨nb4, 0, none⟩) 5 5, .slice (some ⟨ob5, 0, none⟩) 1 1] 128, pt nb4 #[.slice none 0 0, .int .i64 0, .slice none 0 0, .int .i64 0, .slice a15 X.length c16, .int .i64 b, .slice none 0 0, .int .i64 0, .slice none 0 0, .int .i64 0] 77, own 3 1 (.slice a15 X.length c16) X.length (X.map (Value.int .i64)), own 3 1 (.slice az1 X.length c10) X.length (Z11.map (Value.int .i64)), own 3 1 (.slice a13 X.length c14) X.length (X.map (Value.int .i64)), pt ob5 #[.slice none 0 0] 43, memO m2 c3 (linkL (List.replicate (3 + (5 + 1) : Int).toNat 0) 3 5 (5 : Int).toNat) (0 + 1 + 5) op6] _ := hM.callL 3 hn; clear hn
    refine ⟨.agg #[.slice a18 X.length c19, .int .i64 b], rfl, fun a hA => ?_⟩
    refine S.alloc hA hM info77 rfl rfl ?_; clear hA hM a; intro b20 w11 hb21 hM a hA
    replace hM : Mem _ _ [pt b20 #[.slice none 0 0, .int .i64 0] 77, own 3 1 (.slice a18 X.length c19) X.length (X.map (Value.int .i64)), pt q1 #[.pointer (some ⟨m2, 0, none⟩), .int .i64 3, .slice (some ⟨nb4, 0, none⟩) 5 5, .slice (some ⟨ob5, 0, none⟩) 1 1] 128, pt nb4 #[.slice none 0 0, .int .i64 0, .slice none 0 0, .int .i64 0, .slice a15 X.length c16, .int .i64 b, .slice none 0 0, .int .i64 0, .slice none 0 0, .int .i64 0] 77, own 3 1 (.slice a15 X.length c16) X.length (X.map (Value.int .i64)), own 3 1 (.slice az1 X.length c10) X.length (Z11.map (Value.int .i64)), own 3 1 (.slice a13 X.length c14) X.length (X.map (Value.int .i64)), pt ob5 #[.slice none 0 0] 43, memO m2 c3 (linkL (List.replicate (3 + (5 + 1) : Int).toNat 0) 3 5 (5 : Int).toNat) (0 + 1 + 5) op6] _ := hM
    refine S.storeA (k := 0) hA hM sz77 rfl rfl rfl rfl rfl rfl ?_; clear hM
    intro w12 hM
    replace hM : Mem _ _ [pt b20 #[.slice a18 X.length c19, .int .i64 b] 77, own 3 1 (.slice a18 X.length c19) X.length (X.map (Value.int .i64)), pt q1 #[.pointer (some ⟨m2, 0, none⟩), .int .i64 3, .slice (some ⟨nb4, 0, none⟩) 5 5, .slice (some ⟨ob5, 0, none⟩) 1 1] 128, pt nb4 #[.slice none 0 0, .int .i64 0, .slice none 0 0, .int .i64 0, .slice a15 X.length c16, .int .i64 b, .slice none 0 0, .int .i64 0, .slice none 0 0, .int .i64 0] 77, own 3 1 (.slice a15 X.length c16) X.length (X.map (Value.int .i64)), own 3 1 (.slice az1 X.length c10) X.length (Z11.map (Value.int .i64)), own 3 1 (.slice a13 X.length c14) X.length (X.map (Value.int .i64)), pt ob5 #[.slice none 0 0] 43, memO m2 c3 (linkL (List.replicate (3 + (5 + 1) : Int).toNat 0) 3 5 (5 : Int).toNat) (0 + 1 + 5) op6] _ := hM
    refine S.done ?_
    replace hA : St 124 [(0, _), (2, _), (6, _), (7, _), (10, _), (12, _)] a := hA.sub ((.cons rfl (.cons rfl (.cons rfl (.cons rfl (.cons rfl (.cons rfl .nil)))))))
    refine Ends.seq ?_
    refine Ends.seq ?_
    refine Ends.region ?_
    refine S.val hA (R.move rfl) rfl ?_; clear hA a; intro a hA
    refine S.val hA (R.ff (R.lss rfl rfl) (by first | decide | simp | omega)) rfl ?_; clear hA a; intro a hA
    refine S.val hA (R.move rfl) rfl ?_; clear hA a; intro a hA
    refine S.valg (dj := 60) hA (by kernel_rfl) rfl (R.move rfl) rfl ?_; clear hA a; intro a hA
    refine S.valg (dj := 60) hA (by kernel_rfl) rfl (R.ff (R.geq rfl rfl) (by first | decide | simp | omega)) rfl ?_; clear hA a; intro a hA
    refine S.val hA (R.pickF rfl rfl) rfl ?_; clear hA a; intro a hA
    refine S.done ?_
    replace hA : St 124 [(0, _), (2, _), (6, _), (7, _), (10, _), (12, _), (63, _)] a := hA.sub ((.cons rfl (.cons rfl (.cons rfl (.cons rfl (.cons rfl (.cons rfl (.cons rfl .nil))))))))
    refine Ends.condF hA rfl ?_
    refine Ends.skip ?_
    refine Ends.seq ?_
    refine Ends.seq ?_
    refine Ends.region ?_
    refine S.val hA (R.fieldAddr (q := 0) fi77_0 rfl rfl rfl) rfl ?_; clear hA a; intro a hA
    refine S.val hA (R.load sz43 rfl (hM.cell (k := 0) rfl rfl)) rfl ?_; clear hA a; intro a hA
    refine S.val hA (R.move rfl) rfl ?_; clear hA a; intro a hA
    refine S.call hA (R.callF Try.func40 rfl rfl rfl) rfl (same09_eq (.slice a18 X.length c19) (.slice a13 X.length c14) X _ (hM.intSl (k := 1) rfl) (hM.intSl (k := 6) rfl)) ?_; clear hA a
    rintro e w13 ⟨rfl, hb⟩
    replace hM := hM.callB hb; clear hb
    refine ⟨.bool true, rfl, fun a hA => ?_⟩
    refine S.val hA (R.not rfl) rfl ?_; clear hA a; intro a hA
    refine S.val hA (R.move rfl) rfl ?_; clear hA a; intro a hA
    refine S.valg (dj := 78) hA (by kernel_rfl) rfl (R.fieldAddr (q := 1) fi77_1 rfl rfl rfl) rfl ?_; clear hA a; intro a hA
    refine S.valg (dj := 78) hA (by kernel_rfl) rfl (R.load sz3 rfl (hM.cell (k := 0) rfl rfl)) rfl ?_; clear hA a; intro a hA
    refine S.valg (dj := 78) hA (by kernel_rfl) rfl (R.move rfl) rfl ?_; clear hA a; intro a hA
    refine S.valg (dj := 78) hA (by kernel_rfl) rfl (R.ff (R.neq rfl rfl) (by first | omega | (simp; done))) rfl ?_; clear hA a; intro a hA
    refine S.val hA (R.pickF rfl rfl) rfl ?_; clear hA a; intro a hA
    refine S.val hA (R.move rfl) rfl ?_; clear hA a; intro a hA
    refine S.valg (dj := 84) hA (by kernel_rfl) rfl (R.move rfl) rfl ?_; clear hA a; intro a hA
    refine S.valg (dj := 84) hA (by kernel_rfl) rfl (R.move rfl) rfl ?_; clear hA a; intro a hA
    replace hM := hM.front (k := 3) rfl
    replace hM := hM.front (k := 3) rfl
    replace hM : Mem _ _ [pt q1 #[.pointer (some ⟨m2, 0, none⟩), .int .i64 3, .slice (some ⟨nb4, 0, none⟩) 5 5, .slice (some ⟨ob5, 0, none⟩) 1 1] 128, pt nb4 #[.slice none 0 0, .int .i64 0, .slice none 0 0, .int .i64 0, .slice a15 X.length c16, .int .i64 b, .slice none 0 0, .int .i64 0, .slice none 0 0, .int .i64 0] 77, pt b20 #[.slice a18 X.length c19, .int .i64 b] 77, own 3 1 (.slice a18 X.length c19) X.length (X.map (Value.int .i64)), own 3 1 (.slice a15 X.length c16) X.length (X.map (Value.int .i64)), own 3 1 (.slice az1 X.length c10) X.length (Z11.map (Value.int .i64)), own 3 1 (.slice a13 X.length c14) X.length (X.map (Value.int .i64)), pt ob5 #[.slice none 0 0] 43, memO m2 c3 (linkL (List.replicate (3 + (5 + 1) : Int).toNat 0) 3 5 (5 : Int).toNat) (0 + 1 + 5) op6] _ := hM
    refine S.callg (dj := 84) hA (by kernel_rfl) rfl (R.callF Try.func46 rfl rfl rfl) rfl (pbound_ok q1 m2 nb4 5 ob5 1 3 2 [.slice none 0 0, .int .i64 0, .slice none 0 0, .int .i64 0, .slice a15 X.length c16, .int .i64 b, .slice none 0 0, .int .i64 0, .slice none 0 0, .int .i64 0] b (by decide) rfl _ (hM.hereN 2)) ?_; clear hA a
    rintro e w14 ⟨rfl, hn⟩
    replace hM : Mem _ _ [pt q1 #[.pointer (some ⟨m2, 0, none⟩), .int .i64 3, .slice (some ⟨nb4, 0, none⟩) 5 5, .slice (some ⟨ob5, 0, none⟩) 1 1] 128, pt nb4 #[.slice none 0 0, .int .i64 0, .slice none 0 0, .int .i64 0, .slice a15 X.length c16, .int .i64 b, .slice none 0 0, .int .i64 0, .slice none 0 0, .int .i64 0] 77, pt b20 #[.slice a18 X.length c19, .int .i64 b] 77, own 3 1 (.slice a18 X.length c19) X.length (X.map (Value.int .i64)), own 3 1 (.slice a15 X.length c16) X.length (X.map (Value.int .i64)), own 3 1 (.slice az1 X.length c10) X.length (Z11.map (Value.int .i64)), own 3 1 (.slice a13 X.length c14) X.length (X.map (Value.int .i64)), pt ob5 #[.slice none 0 0] 43, memO m2 c3 (linkL (List.replicate (3 + (5 + 1) : Int).toNat 0) 3 5 (5 : Int).toNat) (0 + 1 + 5) op6] _ := hM.callL 2 hn; clear hn
    refine ⟨.int .i64 b, rfl, fun a hA => ?_⟩
    refine S.valg (dj := 84) hA (by kernel_rfl) rfl (R.move rfl) rfl ?_; clear hA a; intro a hA
    refine S.valg (dj := 84) hA (by kernel_rfl) rfl (R.ff (R.neq rfl rfl) (by first | omega | (simp; done))) rfl ?_; clear hA a; intro a hA
    refine S.val hA (R.pickF rfl rfl) rfl ?_; clear hA a; intro a hA
    refine S.done ?_
    replace hA : St 124 [(0, _), (6, _), (7, _), (10, _), (12, _), (90, _)] a := hA.sub ((.cons rfl (.cons rfl (.cons rfl (.cons rfl (.cons rfl (.cons rfl .nil)))))))
    refine Ends.condF hA rfl ?_
    refine Ends.skip ?_
    refine Ends.seq ?_
    refine Ends.seq ?_
    refine Ends.region ?_
    refine S.val hA (R.assign rfl) rfl ?_; clear hA a; intro a hA
    refine S.done ?_
    replace hA : St 124 [(0, _), (6, _), (7, _), (10, _), (12, _), (13, _)] a := hA.sub ((.cons rfl (.cons rfl (.cons rfl (.cons rfl (.cons rfl (.cons rfl .nil)))))))
    refine Ends.block ?_
    refine Ends.loop (σ := Nat × List Int × Option Addr) (fun (k, Z13, az2) (a : Act) (wv : World) => St 124 [(0, .int .i64 2), (6, .bool false), (7, .pointer (some ⟨q1, 0, none⟩)), (10, .slice a13 X.length c14), (12, .pointer (some ⟨b20, 0, none⟩)), (13, .int .i64 ((k : Int)))] a ∧ Mem w nof [pt q1 #[.pointer (some ⟨m2, 0, none⟩), .int .i64 3, .slice (some ⟨nb4, 0, none⟩) 5 5, .slice (some ⟨ob5, 0, none⟩) 1 1] 128, pt nb4 #[.slice none 0 0, .int .i64 0, .slice none 0 0, .int .i64 0, .slice a15 X.length c16, .int .i64 b, .slice none 0 0, .int .i64 0, .slice none 0 0, .int .i64 0] 77, pt b20 #[.slice az2 X.length c19, .int .i64 b] 77, own 3 1 (.slice az2 X.length c19) X.length (Z13.map (Value.int .i64)), own 3 1 (.slice a15 X.length c16) X.length (X.map (Value.int .i64)), own 3 1 (.slice az1 X.length c10) X.length (Z11.map (Value.int .i64)), own 3 1 (.slice a13 X.length c14) X.length (X.map (Value.int .i64)), pt ob5 #[.slice none 0 0] 43, memO m2 c3 (linkL (List.replicate (3 + (5 + 1) : Int).toNat 0) 3 5 (5 : Int).toNat) (0 + 1 + 5) op6] wv ∧ (k ≤ X.length) ∧ (Z13.length = X.length)) (fun (k, Z13, az2) => X.length - k) ((0, X, a18)) ⟨hA.sub ((.cons rfl (.cons rfl (.cons rfl (.cons rfl (.cons rfl (.cons rfl .nil))))))), hM, (by omega), rfl⟩ ?_
    clear hA hM a
    rintro ⟨k, Z13, az2⟩ a w15 ⟨hA, hM, hk, hZ13⟩ hNext1
    refine Ends.seq ?_
    refine Ends.seq ?_
    refine Ends.region ?_
    refine S.val hA (R.move rfl) rfl ?_; clear hA a; intro a hA
    refine S.val hA (R.fieldAddr (q := 0) fi77_0 rfl rfl rfl) rfl ?_; clear hA a; intro a hA
    refine S.val hA (R.load sz43 rfl (hM.cell (k := 2) rfl rfl)) rfl ?_; clear hA a; intro a hA
    refine S.val hA (R.lenS Try.underlying43 rfl rfl) rfl ?_; clear hA a; intro a hA
    refine S.val hA (R.lss rfl rfl) rfl ?_; clear hA a; intro a hA
    refine S.done ?_
    replace hA : St 124 [(0, _), (6, _), (7, _), (10, _), (12, _), (13, _), (91, _), (92, _), (93, _), (94, _), (95, _)] a := hA.sub ((.cons rfl (.cons rfl (.cons rfl (.cons rfl (.cons rfl (.cons rfl (.cons rfl (.cons rfl (.cons rfl (.cons rfl (.cons rfl .nil))))))))))))
    refine Ends.ite hA rfl (fun hc22 => ?_) (fun hc22 => ?_)
    ·
      refine Ends.skip ?_
      refine Ends.seq ?_
      refine Ends.block ?_
      obtain ⟨gz, hgz⟩ := hM.ownAt (k := 3) rfl (by omega)
      subst hgz
      replace hM : Mem _ _ [pt q1 #[.pointer (some ⟨m2, 0, none⟩), .int .i64 3, .slice (some ⟨nb4, 0, none⟩) 5 5, .slice (some ⟨ob5, 0, none⟩) 1 1] 128, pt nb4 #[.slice none 0 0, .int .i64 0, .slice none 0 0, .int .i64 0, .slice a15 X.length c16, .int .i64 b, .slice none 0 0, .int .i64 0, .slice none 0 0, .int .i64 0] 77, pt b20 #[.slice (some ⟨gz, 0, none⟩) X.length c19, .int .i64 b] 77, own 3 1 (.slice (some ⟨gz, 0, none⟩) X.length c19) X.length (Z13.map (Value.int .i64)), own 3 1 (.slice a15 X.length c16) X.length (X.map (Value.int .i64)), own 3 1 (.slice az1 X.length c10) X.length (Z11.map (Value.int .i64)), own 3 1 (.slice a13 X.length c14) X.length (X.map (Value.int .i64)), pt ob5 #[.slice none 0 0] 43, memO m2 c3 (linkL (List.replicate (3 + (5 + 1) : Int).toNat 0) 3 5 (5 : Int).toNat) (0 + 1 + 5) op6] _ := hM
      refine Ends.drawn (Mem w nof [pt q1 #[.pointer (some ⟨m2, 0, none⟩), .int .i64 3, .slice (some ⟨nb4, 0, none⟩) 5 5, .slice (some ⟨ob5, 0, none⟩) 1 1] 128, pt nb4 #[.slice none 0 0, .int .i64 0, .slice none 0 0, .int .i64 0, .slice a15 X.length c16, .int .i64 b, .slice none 0 0, .int .i64 0, .slice none 0 0, .int .i64 0] 77, pt b20 #[.slice (some ⟨gz, 0, none⟩) X.length c19, .int .i64 b] 77, own 3 1 (.slice (some ⟨gz, 0, none⟩) X.length c19) X.length (Z13.map (Value.int .i64)), own 3 1 (.slice a15 X.length c16) X.length (X.map (Value.int .i64)), own 3 1 (.slice az1 X.length c10) X.length (Z11.map (Value.int .i64)), own 3 1 (.slice a13 X.length c14) X.length (X.map (Value.int .i64)), pt ob5 #[.slice none 0 0] 43]) (.cons (0, true) (.cons (1, true) (.cons (2, true) (.cons (3, true) (.cons (4, true) (.cons (5, true) (.cons (6, true) (.cons (7, true) (.cons (8, true) (.cons (9, true) (.cons (10, false) .nil))))))))))) 10 mixed (by kernel_rfl) (by kernel_rfl) (by kernel_rfl) (hM.drop 8).drew ?_
      replace hM := hM.drew
      refine D.valF hA rfl (fun _ => R.fieldAddr (q := 0) fi77_0 rfl rfl rfl) rfl ?_; clear hA a; intro a hA
      refine D.val hA rfl (by kernel_rfl) (fun _ hM => R.load sz43 rfl (hM.cell (k := 2) rfl rfl)) rfl ?_; clear hA a; intro a hA
      refine D.valF hA rfl (fun _ => R.move rfl) rfl ?_; clear hA a; intro a hA
      refine D.valF hA rfl (fun _ => R.fieldAddr (q := 0) fi77_0 rfl rfl rfl) rfl ?_; clear hA a; intro a hA
      refine D.val hA rfl (by kernel_rfl) (fun _ hM => R.load sz43 rfl (hM.cell (k := 2) rfl rfl)) rfl ?_; clear hA a; intro a hA
      refine D.valF hA rfl (fun _ => R.move rfl) rfl ?_; clear hA a; intro a hA
      refine D.valF hA rfl (fun _ => R.indexAddr (q := k) sl43 rfl rfl (by first | omega | (simp; done)) (by first | omega | (simp; done))) rfl ?_; clear hA a; intro a hA
      refine D.val hA rfl (by kernel_rfl) (fun _ hM => R.load sz3 rfl (hM.ownCell (k := 3) rfl (mapi_get _ _ (by first | omega | (simp; done))))) rfl ?_; clear hA a; intro a hA
      refine D.valF hA rfl (fun _ => R.bits (by simp) rfl rfl) rfl ?_; clear hA a; intro a hA
      refine D.valF hA rfl (fun _ => R.indexAddr (q := k) sl43 rfl rfl (by first | omega | (simp; done)) (by first | omega | (simp; done))) rfl ?_; clear hA a; intro a hA
      refine D.storeO (k := 3) hA hM rfl sz3 rfl rfl rfl rfl (mapi_get Z13 k (by first | omega | (simp; done))) ?_; clear hM; intro w16 hM; rw [mapi_set] at hM
      refine ⟨fun hne => absurd rfl hne, ?_⟩
      replace hM : Mem _ _ [pt q1 #[.pointer (some ⟨m2, 0, none⟩), .int .i64 3, .slice (some ⟨nb4, 0, none⟩) 5 5, .slice (some ⟨ob5, 0, none⟩) 1 1] 128, pt nb4 #[.slice none 0 0, .int .i64 0, .slice none 0 0, .int .i64 0, .slice a15 X.length c16, .int .i64 b, .slice none 0 0, .int .i64 0, .slice none 0 0, .int .i64 0] 77, pt b20 #[.slice (some ⟨gz, 0, none⟩) X.length c19, .int .i64 b] 77, own 3 1 (.slice (some ⟨gz, 0, none⟩) X.length c19) X.length (((Z13.set k (bits .xor .i64 (Z13.getD k 0) 3))).map (Value.int .i64)), own 3 1 (.slice a15 X.length c16) X.length (X.map (Value.int .i64)), own 3 1 (.slice az1 X.length c10) X.length (Z11.map (Value.int .i64)), own 3 1 (.slice a13 X.length c14) X.length (X.map (Value.int .i64)), pt ob5 #[.slice none 0 0] 43, memO m2 c3 (linkL (List.replicate (3 + (5 + 1) : Int).toNat 0) 3 5 (5 : Int).toNat) (0 + 1 + 5) op6] _ := hM
      refine D.done ?_
      replace hA : St 124 [(0, _), (6, _), (7, _), (10, _), (12, _), (13, _), (91, _), (92, _), (93, _), (94, _), (95, _), (98, _), (99, _), (100, _), (101, _), (102, _), (103, _), (104, _), (105, _), (106, _), (107, _)] a := hA.sub ((.cons rfl (.cons rfl (.cons rfl (.cons rfl (.cons rfl (.cons rfl (.cons rfl (.cons rfl (.cons rfl (.cons rfl (.cons rfl (.cons rfl (.cons rfl (.cons rfl (.cons rfl (.cons rfl (.cons rfl (.cons rfl (.cons rfl (.cons rfl (.cons rfl .nil))))))))))))))))))))))
      refine Ends.inBlock ?_
      refine Ends.region ?_
      refine S.val hA (R.move rfl) rfl ?_; clear hA a; intro a hA
      refine S.val hA (R.addI rfl rfl (r := ((k : Int)) + 1) rfl (by first | omega | (simp; done))) rfl ?_; clear hA a; intro a hA
      refine S.val hA (R.assign rfl) rfl ?_; clear hA a; intro a hA
      refine S.done ?_
      replace hA : St 124 [(0, _), (6, _), (7, _), (10, _), (12, _), (13, _), (91, _), (92, _), (93, _), (94, _), (95, _), (96, _), (97, _), (98, _), (99, _), (100, _), (101, _), (102, _), (103, _), (104, _), (105, _), (106, _), (107, _)] a := hA.sub ((.cons rfl (.cons rfl (.cons rfl (.cons rfl (.cons rfl (.cons rfl (.cons rfl (.cons rfl (.cons rfl (.cons rfl (.cons rfl (.cons rfl (.cons rfl (.cons rfl (.cons rfl (.cons rfl (.cons rfl (.cons rfl (.cons rfl (.cons rfl (.cons rfl (.cons rfl (.cons rfl .nil))))))))))))))))))))))))
      exact hNext1 ((k + 1, (Z13.set k (bits .xor .i64 (Z13.getD k 0) 3)), some ⟨gz, 0, none⟩)) _ _ ((by show X.length - (k + 1) < X.length - k; omega)) ⟨hA.sub ((.cons rfl (.cons rfl (.cons rfl (.cons rfl (.cons rfl (.cons rfl .nil))))))), hM, (by omega), (by rw [List.length_set]; exact hZ13)⟩
    ·
      refine Ends.exit rfl ?_
      replace hA : St 124 [(0, _), (6, _), (7, _), (10, _)] a := hA.sub ((.cons rfl (.cons rfl (.cons rfl (.cons rfl .nil)))))
      refine Ends.seq ?_
      refine Ends.region ?_
      refine S.val hA (R.move rfl) rfl ?_; clear hA a; intro a hA
      refine S.val hA (R.move rfl) rfl ?_; clear hA a; intro a hA
      replace hM := hM.front (k := 4) rfl
      replace hM := hM.front (k := 2) rfl
      replace hM := hM.front (k := 2) rfl
      replace hM : Mem _ _ [pt q1 #[.pointer (some ⟨m2, 0, none⟩), .int .i64 3, .slice (some ⟨nb4, 0, none⟩) 5 5, .slice (some ⟨ob5, 0, none⟩) 1 1] 128, pt nb4 #[.slice none 0 0, .int .i64 0, .slice none 0 0, .int .i64 0, .slice a15 X.length c16, .int .i64 b, .slice none 0 0, .int .i64 0, .slice none 0 0, .int .i64 0] 77, own 3 1 (.slice a15 X.length c16) X.length (X.map (Value.int .i64)), pt b20 #[.slice az2 X.length c19, .int .i64 b] 77, own 3 1 (.slice az2 X.length c19) X.length (Z13.map (Value.int .i64)), own 3 1 (.slice az1 X.length c10) X.length (Z11.map (Value.int .i64)), own 3 1 (.slice a13 X.length c14) X.length (X.map (Value.int .i64)), pt ob5 #[.slice none 0 0] 43, memO m2 c3 (linkL (List.replicate (3 + (5 + 1) : Int).toNat 0) 3 5 (5 : Int).toNat) (0 + 1 + 5) op6] _ := hM
      refine S.call hA (R.callF Try.func45 rfl rfl rfl) rfl (pnode_ok q1 m2 nb4 5 ob5 1 3 2 [.slice none 0 0, .int .i64 0, .slice none 0 0, .int .i64 0, .slice a15 X.length c16, .int .i64 b, .slice none 0 0, .int .i64 0, .slice none 0 0, .int .i64 0] a15 X c16 b (by first | omega | decide | (simp; done) | (simp; omega)) (by decide) rfl _ (hM.hereN 3)) ?_; clear hA a
      rintro e w17 ⟨a23, c24, rfl, hn⟩
      replace hM : Mem _ _ [own 3 1 (.slice a23 X.length c24) X.length (X.map (Value.int .i64)), pt q1 #[.pointer (some ⟨m2, 0, none⟩), .int .i64 3, .slice (some ⟨nb4, 0, none⟩) 5 5, .slice (some ⟨ob5, 0, none⟩) 1 1] 128, pt nb4 #[.slice none 0 0, .int .i64 0, .slice none 0 0, .int .i64 0, .slice a15 X.length c16, .int .i64 b, .slice none 0 0, .int .i64 0, .slice none 0 0, .int .i64 0] 77, own 3 1 (.slice a15 X.length c16) X.length (X.map (Value.int .i64)), pt b20 #[.slice az2 X.length c19, .int .i64 b] 77, own 3 1 (.slice az2 X.length c19) X.length (Z13.map (Value.int .i64)), own 3 1 (.slice az1 X.length c10) X.length (Z11.map (Value.int .i64)), own 3 1 (.slice a13 X.length c14) X.length (X.map (Value.int .i64)), pt ob5 #[.slice none 0 0] 43, memO m2 c3 (linkL (List.replicate (3 + (5 + 1) : Int).toNat 0) 3 5 (5 : Int).toNat) (0 + 1 + 5) op6] _ := hM.callL 3 hn; clear hn
      refine ⟨.agg #[.slice a23 X.length c24, .int .i64 b], rfl, fun a hA => ?_⟩
      refine S.val hA (R.field fi77_0 rfl rfl) rfl ?_; clear hA a; intro a hA
      refine S.val hA (R.move rfl) rfl ?_; clear hA a; intro a hA
      refine S.call hA (R.callF Try.func40 rfl rfl rfl) rfl (same09_eq (.slice a23 X.length c24) (.slice a13 X.length c14) X _ (hM.intSl (k := 0) rfl) (hM.intSl (k := 7) rfl)) ?_; clear hA a
      rintro e w18 ⟨rfl, hb⟩
      replace hM := hM.callB hb; clear hb
      refine ⟨.bool true, rfl, fun a hA => ?_⟩
      refine S.val hA (R.move rfl) rfl ?_; clear hA a; intro a hA
      refine S.valg (dj := 114) hA (by kernel_rfl) rfl (R.move rfl) rfl ?_; clear hA a; intro a hA
      refine S.valg (dj := 114) hA (by kernel_rfl) rfl (R.move rfl) rfl ?_; clear hA a; intro a hA
      refine S.valg (dj := 114) hA (by kernel_rfl) rfl (R.addI rfl rfl (r := 3) rfl (by first | omega | (simp; done))) rfl ?_; clear hA a; intro a hA
      refine S.valg (dj := 114) hA (by kernel_rfl) rfl (R.to (v := .int .i64 3) (R.remI rfl rfl rfl (by decide)) (congrArg (Value.int .i64) (by decide))) rfl ?_; clear hA a; intro a hA
      replace hM := hM.ownNil 3 1
      replace hM : Mem _ _ [own 3 1 (.slice none ((([] : List Int)).length) 0) ((([] : List Int)).length) ((([] : List Int)).map (Value.int .i64)), own 3 1 (.slice a23 X.length c24) X.length (X.map (Value.int .i64)), pt q1 #[.pointer (some ⟨m2, 0, none⟩), .int .i64 3, .slice (some ⟨nb4, 0, none⟩) 5 5, .slice (some ⟨ob5, 0, none⟩) 1 1] 128, pt nb4 #[.slice none 0 0, .int .i64 0, .slice none 0 0, .int .i64 0, .slice a15 X.length c16, .int .i64 b, .slice none 0 0, .int .i64 0, .slice none 0 0, .int .i64 0] 77, own 3 1 (.slice a15 X.length c16) X.length (X.map (Value.int .i64)), pt b20 #[.slice az2 X.length c19, .int .i64 b] 77, own 3 1 (.slice az2 X.length c19) X.length (Z13.map (Value.int .i64)), own 3 1 (.slice az1 X.length c10) X.length (Z11.map (Value.int .i64)), own 3 1 (.slice a13 X.length c14) X.length (X.map (Value.int .i64)), pt ob5 #[.slice none 0 0] 43, memO m2 c3 (linkL (List.replicate (3 + (5 + 1) : Int).toNat 0) 3 5 (5 : Int).toNat) (0 + 1 + 5) op6] _ := hM
      replace hM := hM.front (k := 3) rfl
      replace hM := hM.front (k := 3) rfl
      replace hM : Mem _ _ [pt q1 #[.pointer (some ⟨m2, 0, none⟩), .int .i64 3, .slice (some ⟨nb4, 0, none⟩) 5 5, .slice (some ⟨ob5, 0, none⟩) 1 1] 128, pt nb4 #[.slice none 0 0, .int .i64 0, .slice none 0 0, .int .i64 0, .slice a15 X.length c16, .int .i64 b, .slice none 0 0, .int .i64 0, .slice none 0 0, .int .i64 0] 77, own 3 1 (.slice none ((([] : List Int)).length) 0) ((([] : List Int)).length) ((([] : List Int)).map (Value.int .i64)), own 3 1 (.slice a23 X.length c24) X.length (X.map (Value.int .i64)), own 3 1 (.slice a15 X.length c16) X.length (X.map (Value.int .i64)), pt b20 #[.slice az2 X.length c19, .int .i64 b] 77, own 3 1 (.slice az2 X.length c19) X.length (Z13.map (Value.int .i64)), own 3 1 (.slice az1 X.length c10) X.length (Z11.map (Value.int .i64)), own 3 1 (.slice a13 X.length c14) X.length (X.map (Value.int .i64)), pt ob5 #[.slice none 0 0] 43, memO m2 c3 (linkL (List.replicate (3 + (5 + 1) : Int).toNat 0) 3 5 (5 : Int).toNat) (0 + 1 + 5) op6] _ := hM
      refine S.callg (dj := 114) hA (by kernel_rfl) rfl (R.callF Try.func45 rfl rfl rfl) rfl (pnode_ok q1 m2 nb4 5 ob5 1 3 3 [.slice none 0 0, .int .i64 0, .slice none 0 0, .int .i64 0, .slice a15 X.length c16, .int .i64 b, .slice none 0 0, .int .i64 0, .slice none 0 0, .int .i64 0] none (([] : List Int)) 0 0 (by first | omega | decide | (simp; done) | (simp; omega)) (by decide) rfl _ (hM.hereN 3)) ?_; clear hA a
      rintro e w19 ⟨a25, c26, rfl, hn⟩
      replace hM : Mem _ _ [own 3 1 (.slice a25 ((([] : List Int)).length) c26) ((([] : List Int)).length) ((([] : List Int)).map (Value.int .i64)), pt q1 #[.pointer (some ⟨m2, 0, none⟩), .int .i64 3, .slice (some ⟨nb4, 0, none⟩) 5 5, .slice (some ⟨ob5, 0, none⟩) 1 1] 128, pt nb4 #[.slice none 0 0, .int .i64 0, .slice none 0 0, .int .i64 0, .slice a15 X.length c16, .int .i64 b, .slice none 0 0, .int .i64 0, .slice none 0 0, .int .i64 0] 77, own 3 1 (.slice none ((([] : List Int)).length) 0) ((([] : List Int)).length) ((([] : List Int)).map (Value.int .i64)), own 3 1 (.slice a23 X.length c24) X.length (X.map (Value.int .i64)), own 3 1 (.slice a15 X.length c16) X.length (X.map (Value.int .i64)), pt b20 #[.slice az2 X.length c19, .int .i64 b] 77, own 3 1 (.slice az2 X.length c19) X.length (Z13.map (Value.int .i64)), own 3 1 (.slice az1 X.length c10) X.length (Z11.map (Value.int .i64)), own 3 1 (.slice a13 X.length c14) X.length (X.map (Value.int .i64)), pt ob5 #[.slice none 0 0] 43, memO m2 c3 (linkL (List.replicate (3 + (5 + 1) : Int).toNat 0) 3 5 (5 : Int).toNat) (0 + 1 + 5) op6] _ := hM.callL 3 hn; clear hn
      refine ⟨.agg #[.slice a25 ((([] : List Int)).length) c26, .int .i64 0], rfl, fun a hA => ?_⟩
      refine S.valg (dj := 114) hA (by kernel_rfl) rfl (R.field fi77_0 rfl rfl) rfl ?_; clear hA a; intro a hA
      refine S.valg (dj := 114) hA (by kernel_rfl) rfl (R.lenS Try.underlying43 rfl rfl) rfl ?_; clear hA a; intro a hA
      refine S.valg (dj := 114) hA (by kernel_rfl) rfl (R.eql rfl rfl) rfl ?_; clear hA a; intro a hA
      refine S.val hA (R.pickT rfl rfl) rfl ?_; clear hA a; intro a hA
      refine S.val hA (R.assign rfl) rfl ?_; clear hA a; intro a hA
      refine S.done ?_
      replace hA : St 124 [(6, _)] a := hA.sub ((.cons rfl .nil))
      refine Ends.ret1 Try.func9 Try.results9 hA rfl ?_
      exact ⟨rfl, hM.nilL.below⟩
set_option maxRecDepth 100000 in
set_option maxHeartbeats 400000 in
theorem poolKeeps_3 (b : Int) (ad : Option Addr) (nr cap0 : Nat) (ol : List Int) (hln : nr = ol.length) (w : World) (hsl : IntSl w (.slice ad nr cap0) ol) :
    Calls Try.prog 9 #[.int .i64 3, .slice ad nr cap0, .int .i64 b] w fun e w' => e = .returned (.bool true) ∧ Below w.heap.size w w' := by
  have hM := Mem.start w
  refine Calls.of_ends (vs := [.int .i64 3, .slice ad nr cap0, .int .i64 b]) Try.func9 rfl Try.ntmps9 rfl ?_
  intro a hA
  replace hA : St 124 [(0, _), (1, _), (2, _)] a := hA
  refine Ends.seq ?_
  refine Ends.region ?_
  refine S.val hA (R.assign rfl) rfl ?_; clear hA a; intro a hA
  refine S.done ?_
  replace hA : St 124 [(0, _), (1, _), (2, _), (6, _)] a := hA.sub ((.cons rfl (.cons rfl (.cons rfl (.cons rfl .nil)))))
  refine Ends.seq ?_
  refine Ends.region ?_
  refine S.call hA (R.callF Try.func42 rfl rfl rfl) rfl (pfresh_any 5 1 (by first | omega | decide | (simp; done) | (simp; omega)) (by first | omega | decide | (simp; done) | (simp; omega)) _) ?_; clear hA a
  rintro e w1 ⟨q1, m2, c3, nb4, ob5, op6, rfl, hm2c3, hn⟩
  replace hM : Mem _ _ [pt q1 #[.pointer (some ⟨m2, 0, none⟩), .int .i64 3, .slice (some ⟨nb4, 0, none⟩) 5 5, .slice (some ⟨ob5, 0, none⟩) 1 1] 128, pt nb4 ((madeCells #[.slice none 0 0, .int .i64 0] (5 * 2))) 77, pt ob5 #[.slice none 0 0] 43, memO m2 c3 (linkL (List.replicate (3 + (5 + 1) : Int).toNat 0) 3 5 (5 : Int).toNat) (0 + 1 + 5) op6] _ := hM.call hn; clear hn
  refine ⟨.tuple #[.pointer (some ⟨q1, 0, none⟩), .pointer (some ⟨m2, 0, none⟩), .bool true], rfl, fun a hA => ?_⟩
  refine S.val hA (R.move rfl) rfl ?_; clear hA a; intro a hA
  refine S.val hA (R.extract (v := .pointer (some ⟨q1, 0, none⟩)) rfl rfl) rfl ?_; clear hA a; intro a hA
  refine S.val hA (R.extract (v := .pointer (some ⟨m2, 0, none⟩)) rfl rfl) rfl ?_; clear hA a; intro a hA
  refine S.val hA (R.extract (v := .bool true) rfl rfl) rfl ?_; clear hA a; intro a hA
  refine S.val hA (R.assign rfl) rfl ?_; clear hA a; intro a hA
  refine S.val hA (R.assign rfl) rfl ?_; clear hA a; intro a hA
  refine S.val hA (R.assign rfl) rfl ?_; clear hA a; intro a hA
  refine S.done ?_
  replace hA : St 124 [(0, _), (1, _), (2, _), (6, _), (7, _), (9, _)] a := hA.sub ((.cons rfl (.cons rfl (.cons rfl (.cons rfl (.cons rfl (.cons rfl .nil)))))))
  refine Ends.seq ?_
  rw [made10] at hM
  replace hM : Mem _ _ [pt q1 #[.pointer (some ⟨m2, 0, none⟩), .int .i64 3, .slice (some ⟨nb4, 0, none⟩) 5 5, .slice (some ⟨ob5, 0, none⟩) 1 1] 128, pt nb4 #[.slice none 0 0, .int .i64 0, .slice none 0 0, .int .i64 0, .slice none 0 0, .int .i64 0, .slice none 0 0, .int .i64 0, .slice none 0 0, .int .i64 0] 77, pt ob5 #[.slice none 0 0] 43, memO m2 c3 (linkL (List.replicate (3 + (5 + 1) : Int).toNat 0) 3 5 (5 : Int).toNat) (0 + 1 + 5) op6] _ := hM
  refine Ends.region ?_
  refine S.buildSl0 hA hM Try.underlying43 info3 rfl ?_; clear hA hM a; intro b7 w2 hb8 hM a hA
  replace hM : Mem _ _ [pt b7 #[] 3, pt q1 #[.pointer (some ⟨m2, 0, none⟩), .int .i64 3, .slice (some ⟨nb4, 0, none⟩) 5 5, .slice (some ⟨ob5, 0, none⟩) 1 1] 128, pt nb4 #[.slice none 0 0, .int .i64 0, .slice none 0 0, .int .i64 0, .slice none 0 0, .int .i64 0, .slice none 0 0, .int .i64 0, .slice none 0 0, .int .i64 0] 77, pt ob5 #[.slice none 0 0] 43, memO m2 c3 (linkL (List.replicate (3 + (5 + 1) : Int).toNat 0) 3 5 (5 : Int).toNat) (0 + 1 + 5) op6] _ := hM
  replace hM := hM.ownPt (cap := 0) (n := 0) (sz := 1) (xs := []) rfl (by decide) (by decide) rfl
  replace hM : Mem _ _ [own 3 1 (.slice (some ⟨b7, 0, none⟩) 0 0) 0 ((([] : List Int)).map (Value.int .i64)), pt q1 #[.pointer (some ⟨m2, 0, none⟩), .int .i64 3, .slice (some ⟨nb4, 0, none⟩) 5 5, .slice (some ⟨ob5, 0, none⟩) 1 1] 128, pt nb4 #[.slice none 0 0, .int .i64 0, .slice none 0 0, .int .i64 0, .slice none 0 0, .int .i64 0, .slice none 0 0, .int .i64 0, .slice none 0 0, .int .i64 0] 77, pt ob5 #[.slice none 0 0] 43, memO m2 c3 (linkL (List.replicate (3 + (5 + 1) : Int).toNat 0) 3 5 (5 : Int).toNat) (0 + 1 + 5) op6] _ := hM
  refine S.val hA (R.move rfl) rfl ?_; clear hA a; intro a hA
  refine S.val hA (R.move rfl) rfl ?_; clear hA a; intro a hA
  refine S.val hA (R.lenS Try.underlying43 rfl rfl) rfl ?_; clear hA a; intro a hA
  refine S.val hA (R.min rfl rfl) rfl ?_; clear hA a; intro a hA
  have hcl0 := hsl.len
  obtain ⟨X, hX, hXl⟩ : ∃ X : List Int, IntSl w (.slice ad X.length cap0) X ∧ (X.length : Int) = min (nr : Int) 70 := by
    have hcl := hsl.len
    refine ⟨ol.take (min nr 70), ?_, by rw [List.length_take]; omega⟩
    have := hsl.cut (min nr 70) (by omega)
    rwa [show (ol.take (min nr 70)).length = min nr 70 by rw [List.length_take]; omega]
  refine S.val hA (R.sliceH (h := X.length) Try.underlying43 info3 rfl rfl (by first | omega | (simp; done)) (by first | omega | (simp; done))) rfl ?_; clear hA a; intro a hA
  refine S.appendI (k := 0) hA hM rfl (hX.mem hM) Try.underlying43 info3 rfl rfl rfl rfl rfl rfl (by show 0 + X.length ≤ 9223372036854775807; omega) (by show (0 + X.length) * 8 ≤ _; omega) rfl ?_; clear hA hM a; intro a9 c10 w3 hM a hA
  rw [Nat.zero_add, List.map_nil, List.nil_append] at hM; rw [Nat.zero_add] at hA
  replace hM : Mem _ _ [own 3 1 (.slice a9 X.length c10) X.length (X.map (Value.int .i64)), pt q1 #[.pointer (some ⟨m2, 0, none⟩), .int .i64 3, .slice (some ⟨nb4, 0, none⟩) 5 5, .slice (some ⟨ob5, 0, none⟩) 1 1] 128, pt nb4 #[.slice none 0 0, .int .i64 0, .slice none 0 0, .int .i64 0, .slice none 0 0, .int .i64 0, .slice none 0 0, .int .i64 0, .slice none 0 0, .int .i64 0] 77, pt ob5 #[.slice none 0 0] 43, memO m2 c3 (linkL (List.replicate (3 + (5 + 1) : Int).toNat 0) 3 5 (5 : Int).toNat) (0 + 1 + 5) op6] _ := hM
  refine S.val hA (R.assign rfl) rfl ?_; clear hA a; intro a hA
  refine S.done ?_
  replace hA : St 124 [(0, _), (1, _), (2, _), (6, _), (7, _), (9, _)] a := hA.sub ((.cons rfl (.cons rfl (.cons rfl (.cons rfl (.cons rfl (.cons rfl .nil)))))))
  refine Ends.seq ?_
  refine Ends.seq ?_
  refine Ends.region ?_
  refine S.call hA (R.callF Try.func43 rfl rfl rfl) rfl (ppools_any _) ?_; clear hA a
  rintro e w4 ⟨rfl, hb⟩
  replace hM := hM.callB hb; clear hb
  refine ⟨.bool true, rfl, fun a hA => ?_⟩
  refine S.val hA (R.not rfl) rfl ?_; clear hA a; intro a hA
  refine S.val hA (R.move rfl) rfl ?_; clear hA a; intro a hA
  refine S.valg (dj := 28) hA (by kernel_rfl) rfl (R.move rfl) rfl ?_; clear hA a; intro a hA
  refine S.valg (dj := 28) hA (by kernel_rfl) rfl (R.not rfl) rfl ?_; clear hA a; intro a hA
  refine S.val hA (R.pickF rfl rfl) rfl ?_; clear hA a; intro a hA
  refine S.done ?_
  replace hA : St 124 [(0, _), (1, _), (2, _), (6, _), (7, _), (31, _)] a := hA.sub ((.cons rfl (.cons rfl (.cons rfl (.cons rfl (.cons rfl (.cons rfl .nil)))))))
  refine Ends.condF hA rfl ?_
  refine Ends.skip ?_
  refine Ends.seq ?_
  refine Ends.region ?_
  refine S.buildSl0 hA hM Try.underlying43 info3 rfl ?_; clear hA hM a; intro b11 w5 hb12 hM a hA
  replace hM : Mem _ _ [pt b11 #[] 3, own 3 1 (.slice a9 X.length c10) X.length (X.map (Value.int .i64)), pt q1 #[.pointer (some ⟨m2, 0, none⟩), .int .i64 3, .slice (some ⟨nb4, 0, none⟩) 5 5, .slice (some ⟨ob5, 0, none⟩) 1 1] 128, pt nb4 #[.slice none 0 0, .int .i64 0, .slice none 0 0, .int .i64 0, .slice none 0 0, .int .i64 0, .slice none 0 0, .int .i64 0, .slice none 0 0, .int .i64 0] 77, pt ob5 #[.slice none 0 0] 43, memO m2 c3 (linkL (List.replicate (3 + (5 + 1) : Int).toNat 0) 3 5 (5 : Int).toNat) (0 + 1 + 5) op6] _ := hM
  replace hM := hM.ownPt (cap := 0) (n := 0) (sz := 1) (xs := []) rfl (by decide) (by decide) rfl
  replace hM : Mem _ _ [own 3 1 (.slice (some ⟨b11, 0, none⟩) 0 0) 0 ((([] : List Int)).map (Value.int .i64)), own 3 1 (.slice a9 X.length c10) X.length (X.map (Value.int .i64)), pt q1 #[.pointer (some ⟨m2, 0, none⟩), .int .i64 3, .slice (some ⟨nb4, 0, none⟩) 5 5, .slice (some ⟨ob5, 0, none⟩) 1 1] 128, pt nb4 #[.slice none 0 0, .int .i64 0, .slice none 0 0, .int .i64 0, .slice none 0 0, .int .i64 0, .slice none 0 0, .int .i64 0, .slice none 0 0, .int .i64 0] 77, pt ob5 #[.slice none 0 0] 43, memO m2 c3 (linkL (List.replicate (3 + (5 + 1) : Int).toNat 0) 3 5 (5 : Int).toNat) (0 + 1 + 5) op6] _ := hM
  refine S.val hA (R.move rfl) rfl ?_; clear hA a; intro a hA
  refine S.appendI (k := 0) hA hM rfl (hM.intSl (k := 1) rfl) Try.underlying43 info3 rfl rfl rfl rfl rfl rfl (by show 0 + X.length ≤ 9223372036854775807; omega) (by show (0 + X.length) * 8 ≤ _; omega) rfl ?_; clear hA hM a; intro a13 c14 w6 hM a hA
  rw [Nat.zero_add, List.map_nil, List.nil_append] at hM; rw [Nat.zero_add] at hA
  replace hM : Mem _ _ [own 3 1 (.slice a13 X.length c14) X.length (X.map (Value.int .i64)), own 3 1 (.slice a9 X.length c10) X.length (X.map (Value.int .i64)), pt q1 #[.pointer (some ⟨m2, 0, none⟩), .int .i64 3, .slice (some ⟨nb4, 0, none⟩) 5 5, .slice (some ⟨ob5, 0, none⟩) 1 1] 128, pt nb4 #[.slice none 0 0, .int .i64 0, .slice none 0 0, .int .i64 0, .slice none 0 0, .int .i64 0, .slice none 0 0, .int .i64 0, .slice none 0 0, .int .i64 0] 77, pt ob5 #[.slice none 0 0] 43, memO m2 c3 (linkL (List.replicate (3 + (5 + 1) : Int).toNat 0) 3 5 (5 : Int).toNat) (0 + 1 + 5) op6] _ := hM
  refine S.val hA (R.assign rfl) rfl ?_; clear hA a; intro a hA
  refine S.done ?_
  replace hA : St 124 [(0, _), (1, _), (2, _), (6, _), (7, _), (10, _)] a := hA.sub ((.cons rfl (.cons rfl (.cons rfl (.cons rfl (.cons rfl (.cons rfl .nil)))))))
  refine Ends.seq ?_
  refine Ends.region ?_
  refine S.val hA (R.move rfl) rfl ?_; clear hA a; intro a hA
  refine S.val hA (R.move rfl) rfl ?_; clear hA a; intro a hA
  refine S.val hA (R.move rfl) rfl ?_; clear hA a; intro a hA
  refine S.val hA (R.move rfl) rfl ?_; clear hA a; intro a hA
  refine S.val hA (R.build (cells := #[.slice a9 X.length c10, .int .i64 b]) rfl (by kernel_rfl)) rfl ?_; clear hA a; intro a hA
  replace hM := hM.front (k := 1) rfl
  replace hM := hM.front (k := 3) rfl
  replace hM := hM.front (k := 3) rfl
  replace hM : Mem _ _ [pt q1 #[.pointer (some ⟨m2, 0, none⟩), .int .i64 3, .slice (some ⟨nb4, 0, none⟩) 5 5, .slice (some ⟨ob5, 0, none⟩) 1 1] 128, pt nb4 #[.slice none 0 0, .int .i64 0, .slice none 0 0, .int .i64 0, .slice none 0 0, .int .i64 0, .slice none 0 0, .int .i64 0, .slice none 0 0, .int .i64 0] 77, own 3 1 (.slice a9 X.length c10) X.length (X.map (Value.int .i64)), own 3 1 (.slice a13 X.length c14) X.length (X.map (Value.int .i64)), pt ob5 #[.slice none 0 0] 43, memO m2 c3 (linkL (List.replicate (3 + (5 + 1) : Int).toNat 0) 3 5 (5 : Int).toNat) (0 + 1 + 5) op6] _ := hM
  refine S.call hA (R.callF Try.func44 rfl rfl rfl) rfl (pkeep_3 q1 m2 nb4 ob5 1 3 a9 X c10 b (by omega) _ (hM.hereN 3)) ?_; clear hA a
  rintro e w7 ⟨a15, c16, rfl, hn⟩
  replace hM : Mem _ _ [pt q1 #[.pointer (some ⟨m2, 0, none⟩), .int .i64 3, .slice (some ⟨nb4, 0, none⟩) 5 5, .slice (some ⟨ob5, 0, none⟩) 1 1] 128, pt nb4 #[.slice none 0 0, .int .i64 0, .slice none 0 0, .int .i64 0, .slice none 0 0, .int .i64 0, .slice a15 X.length c16, .int .i64 b, .slice none 0 0, .int .i64 0] 77, own 3 1 (.slice a9 X.length c10) X.length (X.map (Value.int .i64)), own 3 1 (.slice a15 X.length c16) X.length (X.map (Value.int .i64)), own 3 1 (.slice a13 X.length c14) X.length (X.map (Value.int .i64)), pt ob5 #[.slice none 0 0] 43, memO m2 c3 (linkL (List.replicate (3 + (5 + 1) : Int).toNat 0) 3 5 (5 : Int).toNat) (0 + 1 + 5) op6] _ := hM.callL 3 hn; clear hn
  refine ⟨.tuple #[], rfl, fun a hA => ?_⟩
  refine S.done ?_
  replace hA : St 124 [(0, _), (1, _), (2, _), (6, _), (7, _), (10, _)] a := hA.sub ((.cons rfl (.cons rfl (.cons rfl (.cons rfl (.cons rfl (.cons rfl .nil)))))))
  refine Ends.seq ?_
  refine Ends.seq ?_
  refine Ends.region ?_
  refine S.val hA (R.assign rfl) rfl ?_; clear hA a; intro a hA
  refine S.done ?_
  replace hA : St 124 [(0, _), (1, _), (2, _), (6, _), (7, _), (10, _), (11, _)] a := hA.sub ((.cons rfl (.cons rfl (.cons rfl (.cons rfl (.cons rfl (.cons rfl (.cons rfl .nil))))))))
  refine Ends.block ?_
  refine Ends.loop (σ := Nat × List Int × Option Addr) (fun (k, Z11, az1) (a : Act) (wv : World) => St 124 [(0, .int .i64 3), (1, .slice az1 X.length c10), (2, .int .i64 b), (6, .bool false), (7, .pointer (some ⟨q1, 0, none⟩)), (10, .slice a13 X.length c14), (11, .int .i64 ((k : Int)))] a ∧ Mem w nof [pt q1 #[.pointer (some ⟨m2, 0, none⟩), .int .i64 3, .slice (some ⟨nb4, 0, none⟩) 5 5, .slice (some ⟨ob5, 0, none⟩) 1 1] 128, pt nb4 #[.slice none 0 0, .int .i64 0, .slice none 0 0, .int .i64 0, .slice none 0 0, .int .i64 0, .slice a15 X.length c16, .int .i64 b, .slice none 0 0, .int .i64 0] 77, own 3 1 (.slice az1 X.length c10) X.length (Z11.map (Value.int .i64)), own 3 1 (.slice a15 X.length c16) X.length (X.map (Value.int .i64)), own 3 1 (.slice a13 X.length c14) X.length (X.map (Value.int .i64)), pt ob5 #[.slice none 0 0] 43, memO m2 c3 (linkL (List.replicate (3 + (5 + 1) : Int).toNat 0) 3 5 (5 : Int).toNat) (0 + 1 + 5) op6] wv ∧ (k ≤ X.length) ∧ (Z11.length = X.length)) (fun (k, Z11, az1) => X.length - k) ((0, X, a9)) ⟨hA.sub ((.cons rfl (.cons rfl (.cons rfl (.cons rfl (.cons rfl (.cons rfl (.cons rfl .nil)))))))), hM, (by omega), rfl⟩ ?_
  clear hA hM a
  rintro ⟨k, Z11, az1⟩ a w8 ⟨hA, hM, hk, hZ11⟩ hNext
  refine Ends.seq ?_
  refine Ends.seq ?_
  refine Ends.region ?_
  refine S.val hA (R.move rfl) rfl ?_; clear hA a; intro a hA
  refine S.val hA (R.move rfl) rfl ?_; clear hA a; intro a hA
  refine S.val hA (R.lenS Try.underlying43 rfl rfl) rfl ?_; clear hA a; intro a hA
  refine S.val hA (R.lss rfl rfl) rfl ?_; clear hA a; intro a hA
  refine S.done ?_
  replace hA : St 124 [(0, _), (1, _), (2, _), (6, _), (7, _), (10, _), (11, _), (41, _), (42, _), (43, _), (44, _)] a := hA.sub ((.cons rfl (.cons rfl (.cons rfl (.cons rfl (.cons rfl (.cons rfl (.cons rfl (.cons rfl (.cons rfl (.cons rfl (.cons rfl .nil))))))))))))
  refine Ends.ite hA rfl (fun hc17 => ?_) (fun hc17 => ?_)
  ·
    refine Ends.skip ?_
    refine Ends.seq ?_
    refine Ends.block ?_
    obtain ⟨gz, hgz⟩ := hM.ownAt (k := 2) rfl (by omega)
    subst hgz
    replace hM : Mem _ _ [pt q1 #[.pointer (some ⟨m2, 0, none⟩), .int .i64 3, .slice (some ⟨nb4, 0, none⟩) 5 5, .slice (some ⟨ob5, 0, none⟩) 1 1] 128, pt nb4 #[.slice none 0 0, .int .i64 0, .slice none 0 0, .int .i64 0, .slice none 0 0, .int .i64 0, .slice a15 X.length c16, .int .i64 b, .slice none 0 0, .int .i64 0] 77, own 3 1 (.slice (some ⟨gz, 0, none⟩) X.length c10) X.length (Z11.map (Value.int .i64)), own 3 1 (.slice a15 X.length c16) X.length (X.map (Value.int .i64)), own 3 1 (.slice a13 X.length c14) X.length (X.map (Value.int .i64)), pt ob5 #[.slice none 0 0] 43, memO m2 c3 (linkL (List.replicate (3 + (5 + 1) : Int).toNat 0) 3 5 (5 : Int).toNat) (0 + 1 + 5) op6] _ := hM
    refine Ends.region ?_
    refine S.val hA (R.move rfl) rfl ?_; clear hA a; intro a hA
    refine S.val hA (R.move rfl) rfl ?_; clear hA a; intro a hA
    refine S.val hA (R.move rfl) rfl ?_; clear hA a; intro a hA
    refine S.val hA (R.move rfl) rfl ?_; clear hA a; intro a hA
    refine S.val hA (R.indexAddr (q := k) sl43 rfl rfl (by first | omega | (simp; done)) (by first | omega | (simp; done))) rfl ?_; clear hA a; intro a hA
    refine S.val hA (R.load sz3 rfl (hM.ownCell (k := 2) rfl (mapi_get _ _ (by first | omega | (simp; done))))) rfl ?_; clear hA a; intro a hA
    refine S.val hA (R.bits (by simp) rfl rfl) rfl ?_; clear hA a; intro a hA
    refine S.val hA (R.indexAddr (q := k) sl43 rfl rfl (by first | omega | (simp; done)) (by first | omega | (simp; done))) rfl ?_; clear hA a; intro a hA
    refine S.storeO (k := 2) hA hM sz3 rfl rfl rfl rfl (mapi_get Z11 k (by first | omega | (simp; done))) ?_; clear hM; intro w9 hM; rw [mapi_set] at hM
    replace hM : Mem _ _ [pt q1 #[.pointer (some ⟨m2, 0, none⟩), .int .i64 3, .slice (some ⟨nb4, 0, none⟩) 5 5, .slice (some ⟨ob5, 0, none⟩) 1 1] 128, pt nb4 #[.slice none 0 0, .int .i64 0, .slice none 0 0, .int .i64 0, .slice none 0 0, .int .i64 0, .slice a15 X.length c16, .int .i64 b, .slice none 0 0, .int .i64 0] 77, own 3 1 (.slice (some ⟨gz, 0, none⟩) X.length c10) X.length (((Z11.set k (bits .xor .i64 (Z11.getD k 0) 3))).map (Value.int .i64)), own 3 1 (.slice a15 X.length c16) X.length (X.map (Value.int .i64)), own 3 1 (.slice a13 X.length c14) X.length (X.map (Value.int .i64)), pt ob5 #[.slice none 0 0] 43, memO m2 c3 (linkL (List.replicate (3 + (5 + 1) : Int).toNat 0) 3 5 (5 : Int).toNat) (0 + 1 + 5) op6] _ := hM
    refine S.done ?_
    replace hA : St 124 [(0, _), (1, _), (2, _), (6, _), (7, _), (10, _), (11, _), (41, _), (42, _), (43, _), (44, _), (47, _), (48, _), (49, _), (50, _), (51, _), (52, _), (53, _), (54, _)] a := hA.sub ((.cons rfl (.cons rfl (.cons rfl (.cons rfl (.cons rfl (.cons rfl (.cons rfl (.cons rfl (.cons rfl (.cons rfl (.cons rfl (.cons rfl (.cons rfl (.cons rfl (.cons rfl (.cons rfl (.cons rfl (.cons rfl (.cons rfl .nil))))))))))))))))))))
    refine Ends.inBlock ?_
    refine Ends.region ?_
    refine S.val hA (R.move rfl) rfl ?_; clear hA a; intro a hA
    refine S.val hA (R.addI rfl rfl (r := ((k : Int)) + 1) rfl (by first | omega | (simp; done))) rfl ?_; clear hA a; intro a hA
    refine S.val hA (R.assign rfl) rfl ?_; clear hA a; intro a hA
    refine S.done ?_
    replace hA : St 124 [(0, _), (1, _), (2, _), (6, _), (7, _), (10, _), (11, _), (41, _), (42, _), (43, _), (44, _), (45, _), (46, _), (47, _), (48, _), (49, _), (50, _), (51, _), (52, _), (53, _), (54, _)] a := hA.sub ((.cons rfl (.cons rfl (.cons rfl (.cons rfl (.cons rfl (.cons rfl (.cons rfl (.cons rfl (.cons rfl (.cons rfl (.cons rfl (.cons rfl (.cons rfl (.cons rfl (.cons rfl (.cons rfl (.cons rfl (.cons rfl (.cons rfl (.cons rfl (.cons rfl .nil))))))))))))))))))))))
    exact hNext ((k + 1, (Z11.set k (bits .xor .i64 (Z11.getD k 0) 3)), some ⟨gz, 0, none⟩)) _ _ ((by show X.length - (k + 1) < X.length - k; omega)) ⟨hA.sub ((.cons rfl (.cons rfl (.cons rfl (.cons rfl (.cons rfl (.cons rfl (.cons rfl .nil)))))))), hM, (by omega), (by rw [List.length_set]; exact hZ11)⟩
  ·
    refine Ends.exit rfl ?_
    replace hA : St 124 [(0, _), (2, _), (6, _), (7, _), (10, _)] a := hA.sub ((.cons rfl (.cons rfl (.cons rfl (.cons rfl (.cons rfl .nil))))))
    refine Ends.seq ?_
    refine Ends.region ?_
    refine S.val hA (R.move rfl) rfl ?_; clear hA a; intro a hA
    refine S.val hA (R.move rfl) rfl ?_; clear hA a; intro a hA
    replace hM := hM.front (k := 3) rfl
    replace hM := hM.front (k := 2) rfl
    replace hM := hM.front (k := 2) rfl
    replace hM : Mem _ _ [pt q1 #[.pointer (some ⟨m2, 0, none⟩), .int .i64 3, .slice (some ⟨nb4, 0, none⟩) 5 5, .slice (some ⟨ob5, 0, none⟩) 1 1] 128, pt nb4 #[.slice none 0 0, .int .i64 0, .slice none 0 0, .int .i64 0, .slice none 0 0, .int .i64 0, .slice a15 X.length c16, .int .i64 b, .slice none 0 0, .int .i64 0] 77, own 3 1 (.slice a15 X.length c16) X.length (X.map (Value.int .i64)), own 3 1 (.slice az1 X.length c10) X.length (Z11.map (Value.int .i64)), own 3 1 (.slice a13 X.length c14) X.length (X.map (Value.int .i64)), pt ob5 #[.slice none 0 0] 43, memO m2 c3 (linkL (List.replicate (3 + (5 + 1) : Int).toNat 0) 3 5 (5 : Int).toNat) (0 + 1 + 5) op6] _ := hM
    refine S.call hA (R.callF Try.func45 rfl rfl rfl) rfl (pnode_ok q1 m2 nb4 5 ob5 1 3 3 [.slice none 0 0, .int .i64 0, .slice none 0 0, .int .i64 0, .slice none 0 0, .int .i64 0, .slice a15 X.length c16, .int .i64 b, .slice none 0 0, .int .i64 0] a15 X c16 b (by first | omega | decide | (simp; done) | (simp; omega)) (by decide) rfl _ (hM.hereN 3)) ?_; clear hA a
    rintro e w10 ⟨a18, c19, rfl, hn⟩
    replace hM : Mem _ _ [own 3 1 (.slice a18 X.length c19) X.length (X.map (Value.int .i64)), pt q1 #[.pointer (some ⟨m2, 0, none⟩), .int .i64 3, .slice (some ⟨nb4, 0, none⟩) 5 5, .slice (some ⟨ob5, 0, none⟩) 1 1] 128, pt nb4 #[.slice none 0 0, .int .i64 0, .slice none 0 0, .int .i64 0, .slice none 0 0, .int .i64 0, .slice a15 X.length c16, .int .i64 b, .slice none 0 0, .int .i64 0] 77, own 3 1 (.slice a15 X.length c16) X.length (X.map (Value.int .i64)), own 3 1 (.slice az1 X.length c10) X.length (Z11.map (Value.int .i64)), own 3 1 (.slice a13 X.length c14) X.length (X.map (Value.int .i64)), pt ob5 #[.slice none 0 0] 43, memO m2 c3 (linkL (List.replicate (3 + (5 + 1) : Int).toNat 0) 3 5 (5 : Int).toNat) (0 + 1 + 5) op6] _ := hM.callL 3 hn; clear hn
    refine ⟨.agg #[.slice a18 X.length c19, .int .i64 b], rfl, fun a hA => ?_⟩
    refine S.alloc hA hM info77 rfl rfl ?_; clear hA hM a; intro b20 w11 hb21 hM a hA
    replace hM : Mem _ _ [pt b20 #[.slice none 0 0, .int .i64 0] 77, own 3 1 (.slice a18 X.length c19) X.length (X.map (Value.int .i64)), pt q1 #[.pointer (some ⟨m2, 0, none⟩), .int .i64 3, .slice (some ⟨nb4, 0, none⟩) 5 5, .slice (some ⟨ob5, 0, none⟩) 1 1] 128, pt nb4 #[.slice none 0 0, .int .i64 0, .slice none 0 0, .int .i64 0, .slice none 0 0, .int .i64 0, .slice a15 X.length c16, .int .i64 b, .slice none 0 0, .int .i64 0] 77, own 3 1 (.slice a15 X.length c16) X.length (X.map (Value.int .i64)), own 3 1 (.slice az1 X.length c10) X.length (Z11.map (Value.int .i64)), own 3 1 (.slice a13 X.length c14) X.length (X.map (Value.int .i64)), pt ob5 #[.slice none 0 0] 43, memO m2 c3 (linkL (List.replicate (3 + (5 + 1) : Int).toNat 0) 3 5 (5 : Int).toNat) (0 + 1 + 5) op6] _ := hM
    refine S.storeA (k := 0) hA hM sz77 rfl rfl rfl rfl rfl rfl ?_; clear hM
    intro w12 hM
    replace hM : Mem _ _ [pt b20 #[.slice a18 X.length c19, .int .i64 b] 77, own 3 1 (.slice a18 X.length c19) X.length (X.map (Value.int .i64)), pt q1 #[.pointer (some ⟨m2, 0, none⟩), .int .i64 3, .slice (some ⟨nb4, 0, none⟩) 5 5, .slice (some ⟨ob5, 0, none⟩) 1 1] 128, pt nb4 #[.slice none 0 0, .int .i64 0, .slice none 0 0, .int .i64 0, .slice none 0 0, .int .i64 0, .slice a15 X.length c16, .int .i64 b, .slice none 0 0, .int .i64 0] 77, own 3 1 (.slice a15 X.length c16) X.length (X.map (Value.int .i64)), own 3 1 (.slice az1 X.length c10) X.length (Z11.map (Value.int .i64)), own 3 1 (.slice a13 X.length c14) X.length (X.map (Value.int .i64)), pt ob5 #[.slice none 0 0] 43, memO m2 c3 (linkL (List.replicate (3 + (5 + 1) : Int).toNat 0) 3 5 (5 : Int).toNat) (0 + 1 + 5) op6] _ := hM
    refine S.done ?_
    replace hA : St 124 [(0, _), (2, _), (6, _), (7, _), (10, _), (12, _)] a := hA.sub ((.cons rfl (.cons rfl (.cons rfl (.cons rfl (.cons rfl (.cons rfl .nil)))))))
    refine Ends.seq ?_
    refine Ends.seq ?_
    refine Ends.region ?_
    refine S.val hA (R.move rfl) rfl ?_; clear hA a; intro a hA
    refine S.val hA (R.ff (R.lss rfl rfl) (by first | decide | simp | omega)) rfl ?_; clear hA a; intro a hA
    refine S.val hA (R.move rfl) rfl ?_; clear hA a; intro a hA
    refine S.valg (dj := 60) hA (by kernel_rfl) rfl (R.move rfl) rfl ?_; clear hA a; intro a hA
    refine S.valg (dj := 60) hA (by kernel_rfl) rfl (R.ff (R.geq rfl rfl) (by first | decide | simp | omega)) rfl ?_; clear hA a; intro a hA
    refine S.val hA (R.pickF rfl rfl) rfl ?_; clear hA a; intro a hA
    refine S.done ?_
    replace hA : St 124 [(0, _), (2, _), (6, _), (7, _), (10, _), (12, _), (63, _)] a := hA.sub ((.cons rfl (.cons rfl (.cons rfl (.cons rfl (.cons rfl (.cons rfl (.cons rfl .nil))))))))
    refine Ends.condF hA rfl ?_
    refine Ends.skip ?_
    refine Ends.seq ?_
    refine Ends.seq ?_
    refine Ends.region ?_
    refine S.val hA (R.fieldAddr (q := 0) fi77_0 rfl rfl rfl) rfl ?_; clear hA a; intro a hA
    refine S.val hA (R.load sz43 rfl (hM.cell (k := 0) rfl rfl)) rfl ?_; clear hA a; intro a hA
    refine S.val hA (R.move rfl) rfl ?_; clear hA a; intro a hA
    refine S.call hA (R.callF Try.func40 rfl rfl rfl) rfl (same09_eq (.slice a18 X.length c19) (.slice a13 X.length c14) X _ (hM.intSl (k := 1) rfl) (hM.intSl (k := 6) rfl)) ?_; clear hA a
    rintro e w13 ⟨rfl, hb⟩
    replace hM := hM.callB hb; clear hb
    refine ⟨.bool true, rfl, fun a hA => ?_⟩
    refine S.val hA (R.not rfl) rfl ?_; clear hA a; intro a hA
    refine S.val hA (R.move rfl) rfl ?_; clear hA a; intro a hA
    refine S.valg (dj := 78) hA (by kernel_rfl) rfl (R.fieldAddr (q := 1) fi77_1 rfl rfl rfl) rfl ?_; clear hA a; intro a hA
    refine S.valg (dj := 78) hA (by kernel_rfl) rfl (R.load sz3 rfl (hM.cell (k := 0) rfl rfl)) rfl ?_; clear hA a; intro a hA
    refine S.valg (dj := 78) hA (by kernel_rfl) rfl (R.move rfl) rfl ?_; clear hA a; intro a hA
    refine S.valg (dj := 78) hA (by kernel_rfl) rfl (R.ff (R.neq rfl rfl) (by first | omega | (simp; done))) rfl ?_; clear hA a; intro a hA
    refine S.val hA (R.pickF rfl rfl) rfl ?_; clear hA a; intro a hA
    refine S.val hA (R.move rfl) rfl ?_; clear hA a; intro a hA
    refine S.valg (dj := 84) hA (by kernel_rfl) rfl (R.move rfl) rfl ?_; clear hA a; intro a hA
    refine S.valg (dj := 84) hA (by kernel_rfl) rfl (R.move rfl) rfl ?_; clear hA a; intro a hA
    replace hM := hM.front (k := 3) rfl
    replace hM := hM.front (k := 3) rfl
    replace hM : Mem _ _ [pt q1 #[.pointer (some ⟨m2, 0, none⟩), .int .i64 3, .slice (some ⟨nb4, 0, none⟩) 5 5, .slice (some ⟨ob5, 0, none⟩) 1 1] 128, pt nb4 #[.slice none 0 0, .int .i64 0, .slice none 0 0, .int .i64 0, .slice none 0 0, .int .i64 0, .slice a15 X.length c16, .int .i64 b, .slice none 0 0, .int .i64 0] 77, pt b20 #[.slice a18 X.length c19, .int .i64 b] 77, own 3 1 (.slice a18 X.length c19) X.length (X.map (Value.int .i64)), own 3 1 (.slice a15 X.length c16) X.length (X.map (Value.int .i64)), own 3 1 (.slice az1 X.length c10) X.length (Z11.map (Value.int .i64)), own 3 1 (.slice a13 X.length c14) X.length (X.map (Value.int .i64)), pt ob5 #[.slice none 0 0] 43, memO m2 c3 (linkL (List.replicate (3 + (5 + 1) : Int).toNat 0) 3 5 (5 : Int).toNat) (0 + 1 + 5) op6] _ := hM
    refine S.callg (dj := 84) hA (by kernel_rfl) rfl (R.callF Try.func46 rfl rfl rfl) rfl (pbound_ok q1 m2 nb4 5 ob5 1 3 3 [.slice none 0 0, .int .i64 0, .slice none 0 0, .int .i64 0, .slice none 0 0, .int .i64 0, .slice a15 X.length c16, .int .i64 b, .slice none 0 0, .int .i64 0] b (by decide) rfl _ (hM.hereN 2)) ?_; clear hA a
    rintro e w14 ⟨rfl, hn⟩
    replace hM : Mem _ _ [pt q1 #[.pointer (some ⟨m2, 0, none⟩), .int .i64 3, .slice (some ⟨nb4, 0, none⟩) 5 5, .slice (some ⟨ob5, 0, none⟩) 1 1] 128, pt nb4 #[.slice none 0 0, .int .i64 0, .slice none 0 0, .int .i64 0, .slice none 0 0, .int .i64 0, .slice a15 X.length c16, .int .i64 b, .slice none 0 0, .int .i64 0] 77, pt b20 #[.slice a18 X.length c19, .int .i64 b] 77, own 3 1 (.slice a18 X.length c19) X.length (X.map (Value.int .i64)), own 3 1 (.slice a15 X.length c16) X.length (X.map (Value.int .i64)), own 3 1 (.slice az1 X.length c10) X.length (Z11.map (Value.int .i64)), own 3 1 (.slice a13 X.length c14) X.length (X.map (Value.int .i64)), pt ob5 #[.slice none 0 0] 43, memO m2 c3 (linkL (List.replicate (3 + (5 + 1) : Int).toNat 0) 3 5 (5 : Int).toNat) (0 + 1 + 5) op6] _ := hM.callL 2 hn; clear hn
    refine ⟨.int .i64 b, rfl, fun a hA => ?_⟩
    refine S.valg (dj := 84) hA (by kernel_rfl) rfl (R.move rfl) rfl ?_; clear hA a; intro a hA
    refine S.valg (dj := 84) hA (by kernel_rfl) rfl (R.ff (R.neq rfl rfl) (by first | omega | (simp; done))) rfl ?_; clear hA a; intro a hA
    refine S.val hA (R.pickF rfl rfl) rfl ?_; clear hA a; intro a hA
    refine S.done ?_
    replace hA : St 124 [(0, _), (6, _), (7, _), (10, _), (12, _), (90, _)] a := hA.sub ((.cons rfl (.cons rfl (.cons rfl (.cons rfl (.cons rfl (.cons rfl .nil)))))))
    refine Ends.condF hA rfl ?_
    refine Ends.skip ?_
    refine Ends.seq ?_
    refine Ends.seq ?_
    refine Ends.region ?_
    refine S.val hA (R.assign rfl) rfl ?_; clear hA a; intro a hA
    refine S.done ?_
    replace hA : St 124 [(0, _), (6, _), (7, _), (10, _), (12, _), (13, _)] a := hA.sub ((.cons rfl (.cons rfl (.cons rfl (.cons rfl (.cons rfl (.cons rfl .nil)))))))
    refine Ends.block ?_
    refine Ends.loop (σ := Nat × List Int × Option Addr) (fun (k, Z13, az2) (a : Act) (wv : World) => St 124 [(0, .int .i64 3), (6, .bool false), (7, .pointer (some ⟨q1, 0, none⟩)), (10, .slice a13 X.length c14), (12, .pointer (some ⟨b20, 0, none⟩)), (13, .int .i64 ((k : Int)))] a ∧ Mem w nof [pt q1 #[.pointer (some ⟨m2, 0, none⟩), .int .i64 3, .slice (some ⟨nb4, 0, none⟩) 5 5, .slice (some ⟨ob5, 0, none⟩) 1 1] 128, pt nb4 #[.slice none 0 0, .int .i64 0, .slice none 0 0, .int .i64 0, .slice none 0 0, .int .i64 0, .slice a15 X.length c16, .int .i64 b, .slice none 0 0, .int .i64 0] 77, pt b20 #[.slice az2 X.length c19, .int .i64 b] 77, own 3 1 (.slice az2 X.length c19) X.length (Z13.map (Value.int .i64)), own 3 1 (.slice a15 X.length c16) X.length (X.map (Value.int .i64)), own 3 1 (.slice az1 X.length c10) X.length (Z11.map (Value.int .i64)), own 3 1 (.slice a13 X.length c14) X.length (X.map (Value.int .i64)), pt ob5 #[.slice none 0 0] 43, memO m2 c3 (linkL (List.replicate (3 + (5 + 1) : Int).toNat 0) 3 5 (5 : Int).toNat) (0 + 1 + 5) op6] wv ∧ (k ≤ X.length) ∧ (Z13.length = X.length)) (fun (k, Z13, az2) => X.length - k) ((0, X, a18)) ⟨hA.sub ((.cons rfl (.cons rfl (.cons rfl (.cons rfl (.cons rfl (.cons rfl .nil))))))), hM, (by omega), rfl⟩ ?_
    clear hA hM a
    rintro ⟨k, Z13, az2⟩ a w15 ⟨hA, hM, hk, hZ13⟩ hNext1
    refine Ends.seq ?_
    refine Ends.seq ?_
    refine Ends.region ?_
    refine S.val hA (R.move rfl) rfl ?_; clear hA a; intro a hA
    refine S.val hA (R.fieldAddr (q := 0) fi77_0 rfl rfl rfl) rfl ?_; clear hA a; intro a hA
    refine S.val hA (R.load sz43 rfl (hM.cell (k := 2) rfl rfl)) rfl ?_; clear hA a; intro a hA
    refine S.val hA (R.lenS Try.underlying43 rfl rfl) rfl ?_; clear hA a; intro a hA
    refine S.val hA (R.lss rfl rfl) rfl ?_; clear hA a; intro a hA
    refine S.done ?_
    replace hA : St 124 [(0, _), (6, _), (7, _), (10, _), (12, _), (13, _), (91, _), (92, _), (93, _), (94, _), (95, _)] a := hA.sub ((.cons rfl (.cons rfl (.cons rfl (.cons rfl (.cons rfl (.cons rfl (.cons rfl (.cons rfl (.cons rfl (.cons rfl (.cons rfl .nil))))))))))))
    refine Ends.ite hA rfl (fun hc22 => ?_) (fun hc22 => ?_)
    ·
      refine Ends.skip ?_
      refine Ends.seq ?_
      refine Ends.block ?_
      obtain ⟨gz, hgz⟩ := hM.ownAt (k := 3) rfl (by omega)
      subst hgz
      replace hM : Mem _ _ [pt q1 #[.pointer (some ⟨m2, 0, none⟩), .int .i64 3, .slice (some ⟨nb4, 0, none⟩) 5 5, .slice (some ⟨ob5, 0, none⟩) 1 1] 128, pt nb4 #[.slice none 0 0, .int .i64 0, .slice none 0 0, .int .i64 0, .slice none 0 0, .int .i64 0, .slice a15 X.length c16, .int .i64 b, .slice none 0 0, .int .i64 0] 77, pt b20 #[.slice (some ⟨gz, 0, none⟩) X.length c19, .int .i64 b] 77, own 3 1 (.slice (some ⟨gz, 0, none⟩) X.length c19) X.length (Z13.map (Value.int .i64)), own 3 1 (.slice a15 X.length c16) X.length (X.map (Value.int .i64)), own 3 1 (.slice az1 X.length c10) X.length (Z11.map (Value.int .i64)), own 3 1 (.slice a13 X.length c14) X.length (X.map (Value.int .i64)), pt ob5 #[.slice none 0 0] 43, memO m2 c3 (linkL (List.replicate (3 + (5 + 1) : Int).toNat 0) 3 5 (5 : Int).toNat) (0 + 1 + 5) op6] _ := hM
      refine Ends.drawn (Mem w nof [pt q1 #[.pointer (some ⟨m2, 0, none⟩), .int .i64 3, .slice (some ⟨nb4, 0, none⟩) 5 5, .slice (some ⟨ob5, 0, none⟩) 1 1] 128, pt nb4 #[.slice none 0 0, .int .i64 0, .slice none 0 0, .int .i64 0, .slice none 0 0, .int .i64 0, .slice a15 X.length c16, .int .i64 b, .slice none 0 0, .int .i64 0] 77, pt b20 #[.slice (some ⟨gz, 0, none⟩) X.length c19, .int .i64 b] 77, own 3 1 (.slice (some ⟨gz, 0, none⟩) X.length c19) X.length (Z13.map (Value.int .i64)), own 3 1 (.slice a15 X.length c16) X.length (X.map (Value.int .i64)), own 3 1 (.slice az1 X.length c10) X.length (Z11.map (Value.int .i64)), own 3 1 (.slice a13 X.length c14) X.length (X.map (Value.int .i64)), pt ob5 #[.slice none 0 0] 43]) (.cons (0, true) (.cons (1, true) (.cons (2, true) (.cons (3, true) (.cons (4, true) (.cons (5, true) (.cons (6, true) (.cons (7, true) (.cons (8, true) (.cons (9, true) (.cons (10, false) .nil))))))))))) 10 mixed (by kernel_rfl) (by kernel_rfl) (by kernel_rfl) (hM.drop 8).drew ?_
      replace hM := hM.drew
      refine D.valF hA rfl (fun _ => R.fieldAddr (q := 0) fi77_0 rfl rfl rfl) rfl ?_; clear hA a; intro a hA
      refine D.val hA rfl (by kernel_rfl) (fun _ hM => R.load sz43 rfl (hM.cell (k := 2) rfl rfl)) rfl ?_; clear hA a; intro a hA
      refine D.valF hA rfl (fun _ => R.move rfl) rfl ?_; clear hA a; intro a hA
      refine D.valF hA rfl (fun _ => R.fieldAddr (q := 0) fi77_0 rfl rfl rfl) rfl ?_; clear hA a; intro a hA
      refine D.val hA rfl (by kernel_rfl) (fun _ hM => R.load sz43 rfl (hM.cell (k := 2) rfl rfl)) rfl ?_; clear hA a; intro a hA
      refine D.valF hA rfl (fun _ => R.move rfl) rfl ?_; clear hA a; intro a hA
      refine D.valF hA rfl (fun _ => R.indexAddr (q := k) sl43 rfl rfl (by first | omega | (simp; done)) (by first | omega | (simp; done))) rfl ?_; clear hA a; intro a hA
      refine D.val hA rfl (by kernel_rfl) (fun _ hM => R.load sz3 rfl (hM.ownCell (k := 3) rfl (mapi_get _ _ (by first | omega | (simp; done))))) rfl ?_; clear hA a; intro a hA
      refine D.valF hA rfl (fun _ => R.bits (by simp) rfl rfl) rfl ?_; clear hA a; intro a hA
      refine D.valF hA rfl (fun _ => R.indexAddr (q := k) sl43 rfl rfl (by first | omega | (simp; done)) (by first | omega | (simp; done))) rfl ?_; clear hA a; intro a hA
      refine D.storeO (k := 3) hA hM rfl sz3 rfl rfl rfl rfl (mapi_get Z13 k (by first | omega | (simp; done))) ?_; clear hM; intro w16 hM; rw [mapi_set] at hM
      refine ⟨fun hne => absurd rfl hne, ?_⟩
      replace hM : Mem _ _ [pt q1 #[.pointer (some ⟨m2, 0, none⟩), .int .i64 3, .slice (some ⟨nb4, 0, none⟩) 5 5, .slice (some ⟨ob5, 0, none⟩) 1 1] 128, pt nb4 #[.slice none 0 0, .int .i64 0, .slice none 0 0, .int .i64 0, .slice none 0 0, .int .i64 0, .slice a15 X.length c16, .int .i64 b, .slice none 0 0, .int .i64 0] 77, pt b20 #[.slice (some ⟨gz, 0, none⟩) X.length c19, .int .i64 b] 77, own 3 1 (.slice (some ⟨gz, 0, none⟩) X.length c19) X.length (((Z13.set k (bits .xor .i64 (Z13.getD k 0) 3))).map (Value.int .i64)), own 3 1 (.slice a15 X.length c16) X.length (X.map (Value.int .i64)), own 3 1 (.slice az1 X.length c10) X.length (Z11.map (Value.int .i64)), own 3 1 (.slice a13 X.length c14) X.length (X.map (Value.int .i64)), pt ob5 #[.slice none 0 0] 43, memO m2 c3 (linkL (List.replicate (3 + (5 + 1) : Int).toNat 0) 3 5 (5 : Int).toNat) (0 + 1 + 5) op6] _ := hM
      refine D.done ?_
      replace hA : St 124 [(0, _), (6, _), (7, _), (10, _), (12, _), (13, _), (91, _), (92, _), (93, _), (94, _), (95, _), (98, _), (99, _), (100, _), (101, _), (102, _), (103, _), (104, _), (105, _), (106, _), (107, _)] a := hA.sub ((.cons rfl (.cons rfl (.cons rfl (.cons rfl (.cons rfl (.cons rfl (.cons rfl (.cons rfl (.cons rfl (.cons rfl (.cons rfl (.cons rfl (.cons rfl (.cons rfl (.cons rfl (.cons rfl (.cons rfl (.cons rfl (.cons rfl (.cons rfl (.cons rfl .nil))))))))))))))))))))))
      refine Ends.inBlock ?_
      refine Ends.region ?_
      refine S.val hA (R.move rfl) rfl ?_; clear hA a; intro a hA
      refine S.val hA (R.addI rfl rfl (r := ((k : Int)) + 1) rfl (by first | omega | (simp; done))) rfl ?_; clear hA a; intro a hA
      refine S.val hA (R.assign rfl) rfl ?_; clear hA a; intro a hA
      refine S.done ?_
      replace hA : St 124 [(0, _), (6, _), (7, _), (10, _), (12, _), (13, _), (91, _), (92, _), (93, _), (94, _), (95, _), (96, _), (97, _), (98, _), (99, _), (100, _), (101, _), (102, _), (103, _), (104, _), (105, _), (106, _), (107, _)] a := hA.sub ((.cons rfl (.cons rfl (.cons rfl (.cons rfl (.cons rfl (.cons rfl (.cons rfl (.cons rfl (.cons rfl (.cons rfl (.cons rfl (.cons rfl (.cons rfl (.cons rfl (.cons rfl (.cons rfl (.cons rfl (.cons rfl (.cons rfl (.cons rfl (.cons rfl (.cons rfl (.cons rfl .nil))))))))))))))))))))))))
      exact hNext1 ((k + 1, (Z13.set k (bits .xor .i64 (Z13.getD k 0) 3)), some ⟨gz, 0, none⟩)) _ _ ((by show X.length - (k + 1) < X.length - k; omega)) ⟨hA.sub ((.cons rfl (.cons rfl (.cons rfl (.cons rfl (.cons rfl (.cons rfl .nil))))))), hM, (by omega), (by rw [List.length_set]; exact hZ13)⟩
    ·
      refine Ends.exit rfl ?_
      replace hA : St 124 [(0, _), (6, _), (7, _), (10, _)] a := hA.sub ((.cons rfl (.cons rfl (.cons rfl (.cons rfl .nil)))))
      refine Ends.seq ?_
      refine Ends.region ?_
      refine S.val hA (R.move rfl) rfl ?_; clear hA a; intro a hA
      refine S.val hA (R.move rfl) rfl ?_; clear hA a; intro a hA
      replace hM := hM.front (k := 4) rfl
      replace hM := hM.front (k := 2) rfl
      replace hM := hM.front (k := 2) rfl
      replace hM : Mem _ _ [pt q1 #[.pointer (some ⟨m2, 0, none⟩), .int .i64 3, .slice (some ⟨nb4, 0, none⟩) 5 5, .slice (some ⟨ob5, 0, none⟩) 1 1] 128, pt nb4 #[.slice none 0 0, .int .i64 0, .slice none 0 0, .int .i64 0, .slice none 0 0, .int .i64 0, .slice a15 X.length c16, .int .i64 b, .slice none 0 0, .int .i64 0] 77, own 3 1 (.slice a15 X.length c16) X.length (X.map (Value.int .i64)), pt b20 #[.slice az2 X.length c19, .int .i64 b] 77, own 3 1 (.slice az2 X.length c19) X.length (Z13.map (Value.int .i64)), own 3 1 (.slice az1 X.length c10) X.length (Z11.map (Value.int .i64)), own 3 1 (.slice a13 X.length c14) X.length (X.map (Value.int .i64)), pt ob5 #[.slice none 0 0] 43, memO m2 c3 (linkL (List.replicate (3 + (5 + 1) : Int).toNat 0) 3 5 (5 : Int).toNat) (0 + 1 + 5) op6] _ := hM
      refine S.call hA (R.callF Try.func45 rfl rfl rfl) rfl (pnode_ok q1 m2 nb4 5 ob5 1 3 3 [.slice none 0 0, .int .i64 0, .slice none 0 0, .int .i64 0, .slice none 0 0, .int .i64 0, .slice a15 X.length c16, .int .i64 b, .slice none 0 0, .int .i64 0] a15 X c16 b (by first | omega | decide | (simp; done) | (simp; omega)) (by decide) rfl _ (hM.hereN 3)) ?_; clear hA a
      rintro e w17 ⟨a23, c24, rfl, hn⟩
      replace hM : Mem _ _ [own 3 1 (.slice a23 X.length c24) X.length (X.map (Value.int .i64)), pt q1 #[.pointer (some ⟨m2, 0, none⟩), .int .i64 3, .slice (some ⟨nb4, 0, none⟩) 5 5, .slice (some ⟨ob5, 0, none⟩) 1 1] 128, pt nb4 #[.slice none 0 0, .int .i64 0, .slice none 0 0, .int .i64 0, .slice none 0 0, .int .i64 0, .slice a15 X.length c16, .int .i64 b, .slice none 0 0, .int .i64 0] 77, own 3 1 (.slice a15 X.length c16) X.length (X.map (Value.int .i64)), pt b20 #[.slice az2 X.length c19, .int .i64 b] 77, own 3 1 (.slice az2 X.length c19) X.length (Z13.map (Value.int .i64)), own 3 1 (.slice az1 X.length c10) X.length (Z11.map (Value.int .i64)), own 3 1 (.slice a13 X.length c14) X.length (X.map (Value.int .i64)), pt ob5 #[.slice none 0 0] 43, memO m2 c3 (linkL (List.replicate (3 + (5 + 1) : Int).toNat 0) 3 5 (5 : Int).toNat) (0 + 1 + 5) op6] _ := hM.callL 3 hn; clear hn
      refine ⟨.agg #[.slice a23 X.length c24, .int .i64 b], rfl, fun a hA => ?_⟩
      refine S.val hA (R.field fi77_0 rfl rfl) rfl ?_; clear hA a; intro a hA
      refine S.val hA (R.move rfl) rfl ?_; clear hA a; intro a hA
      refine S.call hA (R.callF Try.func40 rfl rfl rfl) rfl (same09_eq (.slice a23 X.length c24) (.slice a13 X.length c14) X _ (hM.intSl (k := 0) rfl) (hM.intSl (k := 7) rfl)) ?_; clear hA a
      rintro e w18 ⟨rfl, hb⟩
      replace hM := hM.callB hb; clear hb
      refine ⟨.bool true, rfl, fun a hA => ?_⟩
      refine S.val hA (R.move rfl) rfl ?_; clear hA a; intro a hA
      refine S.valg (dj := 114) hA (by kernel_rfl) rfl (R.move rfl) rfl ?_; clear hA a; intro a hA
      refine S.valg (dj := 114) hA (by kernel_rfl) rfl (R.move rfl) rfl ?_; clear hA a; intro a hA
      refine S.valg (dj := 114) hA (by kernel_rfl) rfl (R.addI rfl rfl (r := 4) rfl (by first | omega | (simp; done))) rfl ?_; clear hA a; intro a hA
      refine S.valg (dj := 114) hA (by kernel_rfl) rfl (R.to (v := .int .i64 4) (R.remI rfl rfl rfl (by decide)) (congrArg (Value.int .i64) (by decide))) rfl ?_; clear hA a; intro a hA
      replace hM := hM.ownNil 3 1
      replace hM : Mem _ _ [own 3 1 (.slice none ((([] : List Int)).length) 0) ((([] : List Int)).length) ((([] : List Int)).map (Value.int .i64)), own 3 1 (.slice a23 X.length c24) X.length (X.map (Value.int .i64)), pt q1 #[.pointer (some ⟨m2, 0, none⟩), .int .i64 3, .slice (some ⟨nb4, 0, none⟩) 5 5, .slice (some ⟨ob5, 0, none⟩) 1 1] 128, pt nb4 #[.slice none 0 0, .int .i64 0, .slice none 0 0, .int .i64 0, .slice none 0 0, .int .i64 0, .slice a15 X.length c16, .int .i64 b, .slice none 0 0, .int .i64 0] 77, own 3 1 (.slice a15 X.length c16) X.length (X.map (Value.int .i64)), pt b20 #[.slice az2 X.length c19, .int .i64 b] 77, own 3 1 (.slice az2 X.length c19) X.length (Z13.map (Value.int .i64)), own 3 1 (.slice az1 X.length c10) X.length (Z11.map (Value.int .i64)), own 3 1 (.slice a13 X.length c14) X.length (X.map (Value.int .i64)), pt ob5 #[.slice none 0 0] 43, memO m2 c3 (linkL (List.replicate (3 + (5 + 1) : Int).toNat 0) 3 5 (5 : Int).toNat) (0 + 1 + 5) op6] _ := hM
      replace hM := hM.front (k := 3) rfl
      replace hM := hM.front (k := 3) rfl
      replace hM : Mem _ _ [pt q1 #[.pointer (some ⟨m2, 0, none⟩), .int .i64 3, .slice (some ⟨nb4, 0, none⟩) 5 5, .slice (some ⟨ob5, 0, none⟩) 1 1] 128, pt nb4 #[.slice none 0 0, .int .i64 0, .slice none 0 0, .int .i64 0, .slice none 0 0, .int .i64 0, .slice a15 X.length c16, .int .i64 b, .slice none 0 0, .int .i64 0] 77, own 3 1 (.slice none ((([] : List Int)).length) 0) ((([] : List Int)).length) ((([] : List Int)).map (Value.int .i64)), own 3 1 (.slice a23 X.length c24) X.length (X.map (Value.int .i64)), own 3 1 (.slice a15 X.length c16) X.length (X.map (Value.int .i64)), pt b20 #[.slice az2 X.length c19, .int .i64 b] 77, own 3 1 (.slice az2 X.length c19) X.length (Z13.map (Value.int .i64)), own 3 1 (.slice az1 X.length c10) X.length (Z11.map (Value.int .i64)), own 3 1 (.slice a13 X.length c14) X.length (X.map (Value.int .i64)), pt ob5 #[.slice none 0 0] 43, memO m2 c3 (linkL (List.replicate (3 + (5 + 1) : Int).toNat 0) 3 5 (5 : Int).toNat) (0 + 1 + 5) op6] _ := hM
      refine S.callg (dj := 114) hA (by kernel_rfl) rfl (R.callF Try.func45 rfl rfl rfl) rfl (pnode_ok q1 m2 nb4 5 ob5 1 3 4 [.slice none 0 0, .int .i64 0, .slice none 0 0, .int .i64 0, .slice none 0 0, .int .i64 0, .slice a15 X.length c16, .int .i64 b, .slice none 0 0, .int .i64 0] none (([] : List Int)) 0 0 (by first | omega | decide | (simp; done) | (simp; omega)) (by decide) rfl _ (hM.hereN 3)) ?_; clear hA a
      rintro e w19 ⟨a25, c26, rfl, hn⟩
      replace hM : Mem _ _ [own 3 1 (.slice a25 ((([] : List Int)).length) c26) ((([] : List Int)).length) ((([] : List Int)).map (Value.int .i64)), pt q1 #[.pointer (some ⟨m2, 0, none⟩), .int .i64 3, .slice (some ⟨nb4, 0, none⟩) 5 5, .slice (some ⟨ob5, 0, none⟩) 1 1] 128, pt nb4 #[.slice none 0 0, .int .i64 0, .slice none 0 0, .int .i64 0, .slice none 0 0, .int .i64 0, .slice a15 X.length c16, .int .i64 b, .slice none 0 0, .int .i64 0] 77, own 3 1 (.slice none ((([] : List Int)).length) 0) ((([] : List Int)).length) ((([] : List Int)).map (Value.int .i64)), own 3 1 (.slice a23 X.length c24) X.length (X.map (Value.int .i64)), own 3 1 (.slice a15 X.length c16) X.length (X.map (Value.int .i64)), pt b20 #[.slice az2 X.length c19, .int .i64 b] 77, own 3 1 (.slice az2 X.length c19) X.length (Z13.map (Value.int .i64)), own 3 1 (.slice az1 X.length c10) X.length (Z11.map (Value.int .i64)), own 3 1 (.slice a13 X.length c14) X.length (X.map (Value.int .i64)), pt ob5 #[.slice none 0 0] 43, memO m2 c3 (linkL (List.replicate (3 + (5 + 1) : Int).toNat 0) 3 5 (5 : Int).toNat) (0 + 1 + 5) op6] _ := hM.callL 3 hn; clear hn
      refine ⟨.agg #[.slice a25 ((([] : List Int)).length) c26, .int .i64 0], rfl, fun a hA => ?_⟩
      refine S.valg (dj := 114) hA (by kernel_rfl) rfl (R.field fi77_0 rfl rfl) rfl ?_; clear hA a; intro a hA
      refine S.valg (dj := 114) hA (by kernel_rfl) rfl (R.lenS Try.underlying43 rfl rfl) rfl ?_; clear hA a; intro a hA
      refine S.valg (dj := 114) hA (by kernel_rfl) rfl (R.eql rfl rfl) rfl ?_; clear hA a; intro a hA
      refine S.val hA (R.pickT rfl rfl) rfl ?_; clear hA a; intro a hA
      refine S.val hA (R.assign rfl) rfl ?_; clear hA a; intro a hA
      refine S.done ?_
      replace hA : St 124 [(6, _)] a := hA.sub ((.cons rfl .nil))
      refine Ends.ret1 Try.func9 Try.results9 hA rfl ?_
      exact ⟨rfl, hM.nilL.below⟩
set_option maxRecDepth 100000 in
set_option maxHeartbeats 400000 in
theorem poolKeeps_4 (b : Int) (ad : Option Addr) (nr cap0 : Nat) (ol : List Int) (hln : nr = ol.length) (w : World) (hsl : IntSl w (.slice ad nr cap0) ol) :
    Calls Try.prog 9 #[.int .i64 4, .slice ad nr cap0, .int .i64 b] w fun e w' => e = .returned (.bool true) ∧ Below w.heap.size w w' := by
  have hM := Mem.start w
  refine Calls.of_ends (vs := [.int .i64 4, .slice ad nr cap0, .int .i64 b]) Try.func9 rfl Try.ntmps9 rfl ?_
  intro a hA
  replace hA : St 124 [(0, _), (1, _), (2, _)] a := hA
  refine Ends.seq ?_
  refine Ends.region ?_
  refine S.val hA (R.assign rfl) rfl ?_; clear hA a; intro a hA
  refine S.done ?_
  replace hA : St 124 [(0, _), (1, _), (2, _), (6, _)] a := hA.sub ((.cons rfl (.cons rfl (.cons rfl (.cons rfl .nil)))))
  refine Ends.seq ?_
  refine Ends.region ?_
  refine S.call hA (R.callF Try.func42 rfl rfl rfl) rfl (pfresh_any 5 1 (by first | omega | decide | (simp; done) | (simp; omega)) (by first | omega | decide | (simp; done) | (simp; omega)) _) ?_; clear hA a
  rintro e w1 ⟨q1, m2, c3, nb4, ob5, op6, rfl, hm2c3, hn⟩
  replace hM : Mem _ _ [pt q1 #[.pointer (some ⟨m2, 0, none⟩), .int .i64 3, .slice (some ⟨nb4, 0, none⟩) 5 5, .slice (some ⟨ob5, 0, none⟩) 1 1] 128, pt nb4 ((madeCells #[.slice none 0 0, .int .i64 0] (5 * 2))) 77, pt ob5 #[.slice none 0 0] 43, memO m2 c3 (linkL (List.replicate (3 + (5 + 1) : Int).toNat 0) 3 5 (5 : Int).toNat) (0 + 1 + 5) op6] _ := hM.call hn; clear hn
  refine ⟨.tuple #[.pointer (some ⟨q1, 0, none⟩), .pointer (some ⟨m2, 0, none⟩), .bool true], rfl, fun a hA => ?_⟩
  refine S.val hA (R.move rfl) rfl ?_; clear hA a; intro a hA
  refine S.val hA (R.extract (v := .pointer (some ⟨q1, 0, none⟩)) rfl rfl) rfl ?_; clear hA a; intro a hA
  refine S.val hA (R.extract (v := .pointer (some ⟨m2, 0, none⟩)) rfl rfl) rfl ?_; clear hA a; intro a hA
  refine S.val hA (R.extract (v := .bool true) rfl rfl) rfl ?_; clear hA a; intro a hA
  refine S.val hA (R.assign rfl) rfl ?_; clear hA a; intro a hA
  refine S.val hA (R.assign rfl) rfl ?_; clear hA a; intro a hA
  refine S.val hA (R.assign rfl) rfl ?_; clear hA a; intro a hA
  refine S.done ?_
  replace hA : St 124 [(0, _), (1, _), (2, _), (6, _), (7, _), (9, _)] a := hA.sub ((.cons rfl (.cons rfl (.cons rfl (.cons rfl (.cons rfl (.cons rfl .nil)))))))
  refine Ends.seq ?_
  rw [made10] at hM
  replace hM : Mem _ _ [pt q1 #[.pointer (some ⟨m2, 0, none⟩), .int .i64 3, .slice (some ⟨nb4, 0, none⟩) 5 5, .slice (some ⟨ob5, 0, none⟩) 1 1] 128, pt nb4 #[.slice none 0 0, .int .i64 0, .slice none 0 0, .int .i64 0, .slice none 0 0, .int .i64 0, .slice none 0 0, .int .i64 0, .slice none 0 0, .int .i64 0] 77, pt ob5 #[.slice none 0 0] 43, memO m2 c3 (linkL (List.replicate (3 + (5 + 1) : Int).toNat 0) 3 5 (5 : Int).toNat) (0 + 1 + 5) op6] _ := hM
  refine Ends.region ?_
  refine S.buildSl0 hA hM Try.underlying43 info3 rfl ?_; clear hA hM a; intro b7 w2 hb8 hM a hA
  replace hM : Mem _ _ [pt b7 #[] 3, pt q1 #[.pointer (some ⟨m2, 0, none⟩), .int .i64 3, .slice (some ⟨nb4, 0, none⟩) 5 5, .slice (some ⟨ob5, 0, none⟩) 1 1] 128, pt nb4 #[.slice none 0 0, .int .i64 0, .slice none 0 0, .int .i64 0, .slice none 0 0, .int .i64 0, .slice none 0 0, .int .i64 0, .slice none 0 0, .int .i64 0] 77, pt ob5 #[.slice none 0 0] 43, memO m2 c3 (linkL (List.replicate (3 + (5 + 1) : Int).toNat 0) 3 5 (5 : Int).toNat) (0 + 1 + 5) op6] _ := hM
  replace hM := hM.ownPt (cap := 0) (n := 0) (sz := 1) (xs := []) rfl (by decide) (by decide) rfl
  replace hM : Mem _ _ [own 3 1 (.slice (some ⟨b7, 0, none⟩) 0 0) 0 ((([] : List Int)).map (Value.int .i64)), pt q1 #[.pointer (some ⟨m2, 0, none⟩), .int .i64 3, .slice (some ⟨nb4, 0, none⟩) 5 5, .slice (some ⟨ob5, 0, none⟩) 1 1] 128, pt nb4 #[.slice none 0 0, .int .i64 0, .slice none 0 0, .int .i64 0, .slice none 0 0, .int .i64 0, .slice none 0 0, .int .i64 0, .slice none 0 0, .int .i64 0] 77, pt ob5 #[.slice none 0 0] 43, memO m2 c3 (linkL (List.replicate (3 + (5 + 1) : Int).toNat 0) 3 5 (5 : Int).toNat) (0 + 1 + 5) op6] _ := hM
  refine S.val hA (R.move rfl) rfl ?_; clear hA a; intro a hA
  refine S.val hA (R.move rfl) rfl ?_; clear hA a; intro a hA
  refine S.val hA (R.lenS Try.underlying43 rfl rfl) rfl ?_; clear hA a; intro a hA
  refine S.val hA (R.min rfl rfl) rfl ?_; clear hA a; intro a hA
  have hcl0 := hsl.len
  obtain ⟨X, hX, hXl⟩ : ∃ X : List Int, IntSl w (.slice ad X.length cap0) X ∧ (X.length : Int) = min (nr : Int) 70 := by
    have hcl := hsl.len
    refine ⟨ol.take (min nr 70), ?_, by rw [List.length_take]; omega⟩
    have := hsl.cut (min nr 70) (by omega)
    rwa [show (ol.take (min nr 70)).length = min nr 70 by rw [List.length_take]; omega]
  refine S.val hA (R.sliceH (h := X.length) Try.underlying43 info3 rfl rfl (by first | omega | (simp; done)) (by first | omega | (simp; done))) rfl ?_; clear hA a; intro a hA
  refine S.appendI (k := 0) hA hM rfl (hX.mem hM) Try.underlying43 info3 rfl rfl rfl rfl rfl rfl (by show 0 + X.length ≤ 9223372036854775807; omega) (by show (0 + X.length) * 8 ≤ _; omega) rfl ?_; clear hA hM a; intro a9 c10 w3 hM a hA
  rw [Nat.zero_add, List.map_nil, List.nil_append] at hM; rw [Nat.zero_add] at hA
  replace hM : Mem _ _ [own 3 1 (.slice a9 X.length c10) X.length (X.map (Value.int .i64)), pt q1 #[.pointer (some ⟨m2, 0, none⟩), .int .i64 3, .slice (some ⟨nb4, 0, none⟩) 5 5, .slice (some ⟨ob5, 0, none⟩) 1 1] 128, pt nb4 #[.slice none 0 0, .int .i64 0, .slice none 0 0, .int .i64 0, .slice none 0 0, .int .i64 0, .slice none 0 0, .int .i64 0, .slice none 0 0, .int .i64 0] 77, pt ob5 #[.slice none 0 0] 43, memO m2 c3 (linkL (List.replicate (3 + (5 + 1) : Int).toNat 0) 3 5 (5 : Int).toNat) (0 + 1 + 5) op6] _ := hM
  refine S.val hA (R.assign rfl) rfl ?_; clear hA a; intro a hA
  refine S.done ?_
  replace hA : St 124 [(0, _), (1, _), (2, _), (6, _), (7, _), (9, _)] a := hA.sub ((.cons rfl (.cons rfl (.cons rfl (.cons rfl (.cons rfl (.cons rfl .nil)))))))
  refine Ends.seq ?_
  refine Ends.seq ?_
  refine Ends.region ?_
  refine S.call hA (R.callF Try.func43 rfl rfl rfl) rfl (ppools_any _) ?_; clear hA a
  rintro e w4 ⟨rfl, hb⟩
  replace hM := hM.callB hb; clear hb
  refine ⟨.bool true, rfl, fun a hA => ?_⟩
  refine S.val hA (R.not rfl) rfl ?_; clear hA a; intro a hA
  refine S.val hA (R.move rfl) rfl ?_; clear hA a; intro a hA
  refine S.valg (dj := 28) hA (by kernel_rfl) rfl (R.move rfl) rfl ?_; clear hA a; intro a hA
  refine S.valg (dj := 28) hA (by kernel_rfl) rfl (R.not rfl) rfl ?_; clear hA a; intro a hA
  refine S.val hA (R.pickF rfl rfl) rfl ?_; clear hA a; intro a hA
  refine S.done ?_
  replace hA : St 124 [(0, _), (1, _), (2, _), (6, _), (7, _), (31, _)] a := hA.sub ((.cons rfl (.cons rfl (.cons rfl (.cons rfl (.cons rfl (.cons rfl .nil)))))))
  refine Ends.condF hA rfl ?_
  refine Ends.skip ?_
  refine Ends.seq ?_
  refine Ends.region ?_
  refine S.buildSl0 hA hM Try.underlying43 info3 rfl ?_; clear hA hM a; intro b11 w5 hb12 hM a hA
  replace hM : Mem _ _ [pt b11 #[] 3, own 3 1 (.slice a9 X.length c10) X.length (X.map (Value.int .i64)), pt q1 #[.pointer (some ⟨m2, 0, none⟩), .int .i64 3, .slice (some ⟨nb4, 0, none⟩) 5 5, .slice (some ⟨ob5, 0, none⟩) 1 1] 128, pt nb4 #[.slice none 0 0, .int .i64 0, .slice none 0 0, .int .i64 0, .slice none 0 0, .int .i64 0, .slice none 0 0, .int .i64 0, .slice none 0 0, .int .i64 0] 77, pt ob5 #[.slice none 0 0] 43, memO m2 c3 (linkL (List.replicate (3 + (5 + 1) : Int).toNat 0) 3 5 (5 : Int).toNat) (0 + 1 + 5) op6] _ := hM
  replace hM := hM.ownPt (cap := 0) (n := 0) (sz := 1) (xs := []) rfl (by decide) (by decide) rfl
  replace hM : Mem _ _ [own 3 1 (.slice (some ⟨b11, 0, none⟩) 0 0) 0 ((([] : List Int)).map (Value.int .i64)), own 3 1 (.slice a9 X.length c10) X.length (X.map (Value.int .i64)), pt q1 #[.pointer (some ⟨m2, 0, none⟩), .int .i64 3, .slice (some ⟨nb4, 0, none⟩) 5 5, .slice (some ⟨ob5, 0, none⟩) 1 1] 128, pt nb4 #[.slice none 0 0, .int .i64 0, .slice none 0 0, .int .i64 0, .slice none 0 0, .int .i64 0, .slice none 0 0, .int .i64 0, .slice none 0 0, .int .i64 0] 77, pt ob5 #[.slice none 0 0] 43, memO m2 c3 (linkL (List.replicate (3 + (5 + 1) : Int).toNat 0) 3 5 (5 : Int).toNat) (0 + 1 + 5) op6] _ := hM
  refine S.val hA (R.move rfl) rfl ?_; clear hA a; intro a hA
  refine S.appendI (k := 0) hA hM rfl (hM.intSl (k := 1) rfl) Try.underlying43 info3 rfl rfl rfl rfl rfl rfl (by show 0 + X.length ≤ 9223372036854775807; omega) (by show (0 + X.length) * 8 ≤ _; omega) rfl ?_; clear hA hM a; intro a13 c14 w6 hM a hA
  rw [Nat.zero_add, List.map_nil, List.nil_append] at hM; rw [Nat.zero_add] at hA
  replace hM : Mem _ _ [own 3 1 (.slice a13 X.length c14) X.length (X.map (Value.int .i64)), own 3 1 (.slice a9 X.length c10) X.length (X.map (Value.int .i64)), pt q1 #[.pointer (some ⟨m2, 0, none⟩), .int .i64 3, .slice (some ⟨nb4, 0, none⟩) 5 5, .slice (some ⟨ob5, 0, none⟩) 1 1] 128, pt nb4 #[.slice none 0 0, .int .i64 0, .slice none 0 0, .int .i64 0, .slice none 0 0, .int .i64 0, .slice none 0 0, .int .i64 0, .slice none 0 0, .int .i64 0] 77, pt ob5 #[.slice none 0 0] 43, memO m2 c3 (linkL (List.replicate (3 + (5 + 1) : Int).toNat 0) 3 5 (5 : Int).toNat) (0 + 1 + 5) op6] _ := hM
  refine S.val hA (R.assign rfl) rfl ?_; clear hA a; intro a hA
  refine S.done ?_
  replace hA : St 124 [(0, _), (1, _), (2, _), (6, _), (7, _), (10, _)] a := hA.sub ((.cons rfl (.cons rfl (.cons rfl (.cons rfl (.cons rfl (.cons rfl .nil)))))))
  refine Ends.seq ?_
  refine Ends.region ?_
  refine S.val hA (R.move rfl) rfl ?_; clear hA a; intro a hA
  refine S.val hA (R.move rfl) rfl ?_; clear hA a; intro a hA
  refine S.val hA (R.move rfl) rfl ?_; clear hA a; intro a hA
  refine S.val hA (R.move rfl) rfl ?_; clear hA a; intro a hA
  refine S.val hA (R.build (cells := #[.slice a9 X.length c10, .int .i64 b]) rfl (by kernel_rfl)) rfl ?_; clear hA a; intro a hA
  replace hM := hM.front (k := 1) rfl
  replace hM := hM.front (k := 3) rfl
  replace hM := hM.front (k := 3) rfl
  replace hM : Mem _ _ [pt q1 #[.pointer (some ⟨m2, 0, none⟩), .int .i64 3, .slice (some ⟨nb4, 0, none⟩) 5 5, .slice (some ⟨ob5, 0, none⟩) 1 1] 128, pt nb4 #[.slice none 0 0, .int .i64 0, .slice none 0 0, .int .i64 0, .slice none 0 0, .int .i64 0, .slice none 0 0, .int .i64 0, .slice none 0 0, .int .i64 0] 77, own 3 1 (.slice a9 X.length c10) X.length (X.map (Value.int .i64)), own 3 1 (.slice a13 X.length c14) X.length (X.map (Value.int .i64)), pt ob5 #[.slice none 0 0] 43, memO m2 c3 (linkL (List.replicate (3 + (5 + 1) : Int).toNat 0) 3 5 (5 : Int).toNat) (0 + 1 + 5) op6] _ := hM
  refine S.call hA (R.callF Try.func44 rfl rfl rfl) rfl (pkeep_4 q1 m2 nb4 ob5 1 3 a9 X c10 b (by omega) _ (hM.hereN 3)) ?_; clear hA a
  rintro e w7 ⟨a15, c16, rfl, hn⟩
  replace hM : Mem _ _ [pt q1 #[.pointer (some ⟨m2, 0, none⟩), .int .i64 3, .slice (some ⟨nb4, 0, none⟩) 5 5, .slice (some ⟨ob5, 0, none⟩) 1 1] 128, pt nb4 #[.slice none 0 0, .int .i64 0, .slice none 0 0, .int .i64 0, .slice none 0 0, .int .i64 0, .slice none 0 0, .int .i64 0, .slice a15 X.length c16, .int .i64 b] 77, own 3 1 (.slice a9 X.length c10) X.length (X.map (Value.int .i64)), own 3 1 (.slice a15 X.length c16) X.length (X.map (Value.int .i64)), own 3 1 (.slice a13 X.length c14) X.length (X.map (Value.int .i64)), pt ob5 #[.slice none 0 0] 43, memO m2 c3 (linkL (List.replicate (3 + (5 + 1) : Int).toNat 0) 3 5 (5 : Int).toNat) (0 + 1 + 5) op6] _ := hM.callL 3 hn; clear hn
  refine ⟨.tuple #[], rfl, fun a hA => ?_⟩
  refine S.done ?_
  replace hA : St 124 [(0, _), (1, _), (2, _), (6, _), (7, _), (10, _)] a := hA.sub ((.cons rfl (.cons rfl (.cons rfl (.cons rfl (.cons rfl (.cons rfl .nil)))))))
  refine Ends.seq ?_
  refine Ends.seq ?_
  refine Ends.region ?_
  refine S.val hA (R.assign rfl) rfl ?_; clear hA a; intro a hA
  refine S.done ?_
  replace hA : St 124 [(0, _), (1, _), (2, _), (6, _), (7, _), (10, _), (11, _)] a := hA.sub ((.cons rfl (.cons rfl (.cons rfl (.cons rfl (.cons rfl (.cons rfl (.cons rfl .nil))))))))
  refine Ends.block ?_
  refine Ends.loop (σ := Nat × List Int × Option Addr) (fun (k, Z11, az1) (a : Act) (wv : World) => St 124 [(0, .int .i64 4), (1, .slice az1 X.length c10), (2, .int .i64 b), (6, .bool false), (7, .pointer (some ⟨q1, 0, none⟩)), (10, .slice a13 X.length c14), (11, .int .i64 ((k : Int)))] a ∧ Mem w nof [pt q1 #[.pointer (some ⟨m2, 0, none⟩), .int .i64 3, .slice (some ⟨nb4, 0, none⟩) 5 5, .slice (some ⟨ob5, 0, none⟩) 1 1] 128, pt nb4 #[.slice none 0 0, .int .i64 0, .slice none 0 0, .int .i64 0, .slice none 0 0, .int .i64 0, .slice none 0 0, .int .i64 0, .slice a15 X.length c16, .int .i64 b] 77, own 3 1 (.slice az1 X.length c10) X.length (Z11.map (Value.int .i64)), own 3 1 (.slice a15 X.length c16) X.length (X.map (Value.int .i64)), own 3 1 (.slice a13 X.length c14) X.length (X.map (Value.int .i64)), pt ob5 #[.slice none 0 0] 43, memO m2 c3 (linkL (List.replicate (3 + (5 + 1) : Int).toNat 0) 3 5 (5 : Int).toNat) (0 + 1 + 5) op6] wv ∧ (k ≤ X.length) ∧ (Z11.length = X.length)) (fun (k, Z11, az1) => X.length - k) ((0, X, a9)) ⟨hA.sub ((.cons rfl (.cons rfl (.cons rfl (.cons rfl (.cons rfl (.cons rfl (.cons rfl .nil)))))))), hM, (by omega), rfl⟩ ?_
  clear hA hM a
  rintro ⟨k, Z11, az1⟩ a w8 ⟨hA, hM, hk, hZ11⟩ hNext
  refine Ends.seq ?_
  refine Ends.seq ?_
  refine Ends.region ?_
  refine S.val hA (R.move rfl) rfl ?_; clear hA a; intro a hA
  refine S.val hA (R.move rfl) rfl ?_; clear hA a; intro a hA
  refine S.val hA (R.lenS Try.underlying43 rfl rfl) rfl ?_; clear hA a; intro a hA
  refine S.val hA (R.lss rfl rfl) rfl ?_; clear hA a; intro a hA
  refine S.done ?_
  replace hA : St 124 [(0, _), (1, _), (2, _), (6, _), (7, _), (10, _), (11, _), (41, _), (42, _), (43, _), (44, _)] a := hA.sub ((.cons rfl (.cons rfl (.cons rfl (.cons rfl (.cons rfl (.cons rfl (.cons rfl (.cons rfl (.cons rfl (.cons rfl (.cons rfl .nil))))))))))))
  refine Ends.ite hA rfl (fun hc17 => ?_) (fun hc17 => ?_)
  ·
    refine Ends.skip ?_
    refine Ends.seq ?_
    refine Ends.block ?_
    obtain ⟨gz, hgz⟩ := hM.ownAt (k := 2) rfl (by omega)
    subst hgz
    replace hM : Mem _ _ [pt q1 #[.pointer (some ⟨m2, 0, none⟩), .int .i64 3, .slice (some ⟨nb4, 0, none⟩) 5 5, .slice (some ⟨ob5, 0, none⟩) 1 1] 128, pt nb4 #[.slice none 0 0, .int .i64 0, .slice none 0 0, .int .i64 0, .slice none 0 0, .int .i64 0, .slice none 0 0, .int .i64 0, .slice a15 X.length c16, .int .i64 b] 77, own 3 1 (.slice (some ⟨gz, 0, none⟩) X.length c10) X.length (Z11.map (Value.int .i64)), own 3 1 (.slice a15 X.length c16) X.length (X.map (Value.int .i64)), own 3 1 (.slice a13 X.length c14) X.length (X.map (Value.int .i64)), pt ob5 #[.slice none 0 0] 43, memO m2 c3 (linkL (List.replicate (3 + (5 + 1) : Int).toNat 0) 3 5 (5 : Int).toNat) (0 + 1 + 5) op6] _ := hM
    refine Ends.region ?_
    refine S.val hA (R.move rfl) rfl ?_; clear hA a; intro a hA
    refine S.val hA (R.move rfl) rfl ?_; clear hA a; intro a hA
    refine S.val hA (R.move rfl) rfl ?_; clear hA a; intro a hA
    refine S.val hA (R.move rfl) rfl ?_; clear hA a; intro a hA
    refine S.val hA (R.indexAddr (q := k) sl43 rfl rfl (by first | omega | (simp; done)) (by first | omega | (simp; done))) rfl ?_; clear hA a; intro a hA
    refine S.val hA (R.load sz3 rfl (hM.ownCell (k := 2) rfl (mapi_get _ _ (by first | omega | (simp; done))))) rfl ?_; clear hA a; intro a hA
    refine S.val hA (R.bits (by simp) rfl rfl) rfl ?_; clear hA a; intro a hA
    refine S.val hA (R.indexAddr (q := k) sl43 rfl rfl (by first | omega | (simp; done)) (by first | omega | (simp; done))) rfl ?_; clear hA a; intro a hA
    refine S.storeO (k := 2) hA hM sz3 rfl rfl rfl rfl (mapi_get Z11 k (by first | omega | (simp; done))) ?_; clear hM; intro w9 hM; rw [mapi_set] at hM
    replace hM : Mem _ _ [pt q1 #[.pointer (some ⟨m2, 0, none⟩), .int .i64 3, .slice (some ⟨nb4, 0, none⟩) 5 5, .slice (some ⟨ob5, 0, none⟩) 1 1] 128, pt nb4 #[.slice none 0 0, .int .i64 0, .slice none 0 0, .int .i64 0, .slice none 0 0, .int .i64 0, .slice none 0 0, .int .i64 0, .slice a15 X.length c16, .int .i64 b] 77, own 3 1 (.slice (some ⟨gz, 0, none⟩) X.length c10) X.length (((Z11.set k (bits .xor .i64 (Z11.getD k 0) 3))).map (Value.int .i64)), own 3 1 (.slice a15 X.length c16) X.length (X.map (Value.int .i64)), own 3 1 (.slice a13 X.length c14) X.length (X.map (Value.int .i64)), pt ob5 #[.slice none 0 0] 43, memO m2 c3 (linkL (List.replicate (3 + (5 + 1) : Int).toNat 0) 3 5 (5 : Int).toNat) (0 + 1 + 5) op6] _ := hM
    refine S.done ?_
    replace hA : St 124 [(0, _), (1, _), (2, _), (6, _), (7, _), (10, _), (11, _), (41, _), (42, _), (43, _), (44, _), (47, _), (48, _), (49, _), (50, _), (51, _), (52, _), (53, _), (54, _)] a := hA.sub ((.cons rfl (.cons rfl (.cons rfl (.cons rfl (.cons rfl (.cons rfl (.cons rfl (.cons rfl (.cons rfl (.cons rfl (.cons rfl (.cons rfl (.cons rfl (.cons rfl (.cons rfl (.cons rfl (.cons rfl (.cons rfl (.cons rfl .nil))))))))))))))))))))
    refine Ends.inBlock ?_
    refine Ends.region ?_
    refine S.val hA (R.move rfl) rfl ?_; clear hA a; intro a hA
    refine S.val hA (R.addI rfl rfl (r := ((k : Int)) + 1) rfl (by first | omega | (simp; done))) rfl ?_; clear hA a; intro a hA
    refine S.val hA (R.assign rfl) rfl ?_; clear hA a; intro a hA
    refine S.done ?_
    replace hA : St 124 [(0, _), (1, _), (2, _), (6, _), (7, _), (10, _), (11, _), (41, _), (42, _), (43, _), (44, _), (45, _), (46, _), (47, _), (48, _), (49, _), (50, _), (51, _), (52, _), (53, _), (54, _)] a := hA.sub ((.cons rfl (.cons rfl (.cons rfl (.cons rfl (.cons rfl (.cons rfl (.cons rfl (.cons rfl (.cons rfl (.cons rfl (.cons rfl (.cons rfl (.cons rfl (.cons rfl (.cons rfl (.cons rfl (.cons rfl (.cons rfl (.cons rfl (.cons rfl (.cons rfl .nil))))))))))))))))))))))
    exact hNext ((k + 1, (Z11.set k (bits .xor .i64 (Z11.getD k 0) 3)), some ⟨gz, 0, none⟩)) _ _ ((by show X.length - (k + 1) < X.length - k; omega)) ⟨hA.sub ((.cons rfl (.cons rfl (.cons rfl (.cons rfl (.cons rfl (.cons rfl (.cons rfl .nil)))))))), hM, (by omega), (by rw [List.length_set]; exact hZ11)⟩
  ·
    refine Ends.exit rfl ?_
    replace hA : St 124 [(0, _), (2, _), (6, _), (7, _), (10, _)] a := hA.sub ((.cons rfl (.cons rfl (.cons rfl (.cons rfl (.cons rfl .nil))))))
    refine Ends.seq ?_
    refine Ends.region ?_
    refine S.val hA (R.move rfl) rfl ?_; clear hA a; intro a hA
    refine S.val hA (R.move rfl) rfl ?_; clear hA a; intro a hA
    replace hM := hM.front (k := 3) rfl
    replace hM := hM.front (k := 2) rfl
    replace hM := hM.front (k := 2) rfl
    replace hM : Mem _ _ [pt q1 #[.pointer (some ⟨m2, 0, none⟩), .int .i64 3, .slice (some ⟨nb4, 0, none⟩) 5 5, .slice (some ⟨ob5, 0, none⟩) 1 1] 128, pt nb4 #[.slice none 0 0, .int .i64 0, .slice none 0 0, .int .i64 0, .slice none 0 0, .int .i64 0, .slice none 0 0, .int .i64 0, .slice a15 X.length c16, .int .i64 b] 77, own 3 1 (.slice a15 X.length c16) X.length (X.map (Value.int .i64)), own 3 1 (.slice az1 X.length c10) X.length (Z11.map (Value.int .i64)), own 3 1 (.slice a13 X.length c14) X.length (X.map (Value.int .i64)), pt ob5 #[.slice none 0 0] 43, memO m2 c3 (linkL (List.replicate (3 + (5 + 1) : Int).toNat 0) 3 5 (5 : Int).toNat) (0 + 1 + 5) op6] _ := hM
    refine S.call hA (R.callF Try.func45 rfl rfl rfl) rfl (pnode_ok q1 m2 nb4 5 ob5 1 3 4 [.slice none 0 0, .int .i64 0, .slice none 0 0, .int .i64 0, .slice none 0 0, .int .i64 0, .slice none 0 0, .int .i64 0, .slice a15 X.length c16, .int .i64 b] a15 X c16 b (by first | omega | decide | (simp; done) | (simp; omega)) (by decide) rfl _ (hM.hereN 3)) ?_; clear hA a
    rintro e w10 ⟨a18, c19, rfl, hn⟩
    replace hM : Mem _ _ [own 3 1 (.slice a18 X.length c19) X.length (X.map (Value.int .i64)), pt q1 #[.pointer (some ⟨m2, 0, none⟩), .int .i64 3, .slice (some ⟨nb4, 0, none⟩) 5 5, .slice (some ⟨ob5, 0, none⟩) 1 1] 128, pt nb4 #[.slice none 0 0, .int .i64 0, .slice none 0 0, .int .i64 0, .slice none 0 0, .int .i64 0, .slice none 0 0, .int .i64 0, .slice a15 X.length c16, .int .i64 b] 77, own 3 1 (.slice a15 X.length c16) X.length (X.map (Value.int .i64)), own 3 1 (.slice az1 X.length c10) X.length (Z11.map (Value.int .i64)), own 3 1 (.slice a13 X.length c14) X.length (X.map (Value.int .i64)), pt ob5 #[.slice none 0 0] 43, memO m2 c3 (linkL (List.replicate (3 + (5 + 1) : Int).toNat 0) 3 5 (5 : Int).toNat) (0 + 1 + 5) op6] _ := hM.callL 3 hn; clear hn
    refine ⟨.agg #[.slice a18 X.length c19, .int .i64 b], rfl, fun a hA => ?_⟩
    refine S.alloc hA hM info77 rfl rfl ?_; clear hA hM a; intro b20 w11 hb21 hM a hA
    replace hM : Mem _ _ [pt b20 #[.slice none 0 0, .int .i64 0] 77, own 3 1 (.slice a18 X.length c19) X.length (X.map (Value.int .i64)), pt q1 #[.pointer (some ⟨m2, 0, none⟩), .int .i64 3, .slice (some ⟨nb4, 0, none⟩) 5 5, .slice (some ⟨ob5, 0, none⟩) 1 1] 128, pt nb4 #[.slice none 0 0, .int .i64 0, .slice none 0 0, .int .i64 0, .slice none 0 0, .int .i64 0, .slice none 0 0, .int .i64 0, .slice a15 X.length c16, .int .i64 b] 77, own 3 1 (.slice a15 X.length c16) X.length (X.map (Value.int .i64)), own 3 1 (.slice az1 X.length c10) X.length (Z11.map (Value.int .i64)), own 3 1 (.slice a13 X.length c14) X.length (X.map (Value.int .i64)), pt ob5 #[.slice none 0 0] 43, memO m2 c3 (linkL (List.replicate (3 + (5 + 1) : Int).toNat 0) 3 5 (5 : Int).toNat) (0 + 1 + 5) op6] _ := hM
    refine S.storeA (k := 0) hA hM sz77 rfl rfl rfl rfl rfl rfl ?_; clear hM
    intro w12 hM
    replace hM : Mem _ _ [pt b20 #[.slice a18 X.length c19, .int .i64 b] 77, own 3 1 (.slice a18 X.length c19) X.length (X.map (Value.int .i64)), pt q1 #[.pointer (some ⟨m2, 0, none⟩), .int .i64 3, .slice (some ⟨nb4, 0, none⟩) 5 5, .slice (some ⟨ob5, 0, none⟩) 1 1] 128, pt nb4 #[.slice none 0 0, .int .i64 0, .slice none 0 0, .int .i64 0, .slice none 0 0, .int .i64 0, .slice none 0 0, .int .i64 0, .slice a15 X.length c16, .int .i64 b] 77, own 3 1 (.slice a15 X.length c16) X.length (X.map (Value.int .i64)), own 3 1 (.slice az1 X.length c10) X.length (Z11.map (Value.int .i64)), own 3 1 (.slice a13 X.length c14) X.length (X.map (Value.int .i64)), pt ob5 #[.slice none 0 0] 43, memO m2 c3 (linkL (List.replicate (3 + (5 + 1) : Int).toNat 0) 3 5 (5 : Int).toNat) (0 + 1 + 5) op6] _ := hM
    refine S.done ?_
    replace hA : St 124 [(0, _), (2, _), (6, _), (7, _), (10, _), (12, _)] a := hA.sub ((.cons rfl (.cons rfl (.cons rfl (.cons rfl (.cons rfl (.cons rfl .nil)))))))
    refine Ends.seq ?_
    refine Ends.seq ?_
    refine Ends.region ?_
    refine S.val hA (R.move rfl) rfl ?_; clear hA a; intro a hA
    refine S.val hA (R.ff (R.lss rfl rfl) (by first | decide | simp | omega)) rfl ?_; clear hA a; intro a hA
    refine S.val hA (R.move rfl) rfl ?_; clear hA a; intro a hA
    refine S.valg (dj := 60) hA (by kernel_rfl) rfl (R.move rfl) rfl ?_; clear hA a; intro a hA
    refine S.valg (dj := 60) hA (by kernel_rfl) rfl (R.ff (R.geq rfl rfl) (by first | decide | simp | omega)) rfl ?_; clear hA a; intro a hA
    refine S.val hA (R.pickF rfl rfl) rfl ?_; clear hA a; intro a hA
    refine S.done ?_
    replace hA : St 124 [(0, _), (2, _), (6, _), (7, _), (10, _), (12, _), (63, _)] a := hA.sub ((.cons rfl (.cons rfl (.cons rfl (.cons rfl (.cons rfl (.cons rfl (.cons rfl .nil))))))))
    refine Ends.condF hA rfl ?_
    refine Ends.skip ?_
    refine Ends.seq ?_
    refine Ends.seq ?_
    refine Ends.region ?_
    refine S.val hA (R.fieldAddr (q := 0) fi77_0 rfl rfl rfl) rfl ?_; clear hA a; intro a hA
    refine S.val hA (R.load sz43 rfl (hM.cell (k := 0) rfl rfl)) rfl ?_; clear hA a; intro a hA
    refine S.val hA (R.move rfl) rfl ?_; clear hA a; intro a hA
    refine S.call hA (R.callF Try.func40 rfl rfl rfl) rfl (same09_eq (.slice a18 X.length c19) (.slice a13 X.length c14) X _ (hM.intSl (k := 1) rfl) (hM.intSl (k := 6) rfl)) ?_; clear hA a
    rintro e w13 ⟨rfl, hb⟩
    replace hM := hM.callB hb; clear hb
    refine ⟨.bool true, rfl, fun a hA => ?_⟩
    refine S.val hA (R.not rfl) rfl ?_; clear hA a; intro a hA
    refine S.val hA (R.move rfl) rfl ?_; clear hA a; intro a hA
    refine S.valg (dj := 78) hA (by kernel_rfl) rfl (R.fieldAddr (q := 1) fi77_1 rfl rfl rfl) rfl ?_; clear hA a; intro a hA
    refine S.valg (dj := 78) hA (by kernel_rfl) rfl (R.load sz3 rfl (hM.cell (k := 0) rfl rfl)) rfl ?_; clear hA a; intro a hA
    refine S.valg (dj := 78) hA (by kernel_rfl) rfl (R.move rfl) rfl ?_; clear hA a; intro a hA
    refine S.valg (dj := 78) hA (by kernel_rfl) rfl (R.ff (R.neq rfl rfl) (by first | omega | (simp; done))) rfl ?_; clear hA a; intro a hA
    refine S.val hA (R.pickF rfl rfl) rfl ?_; clear hA a; intro a hA
    refine S.val hA (R.move rfl) rfl ?_; clear hA a; intro a hA
    refine S.valg (dj := 84) hA (by kernel_rfl) rfl (R.move rfl) rfl ?_; clear hA a; intro a hA
    refine S.valg (dj := 84) hA (by kernel_rfl) rfl (R.move rfl) rfl ?_; clear hA a; intro a hA
    replace hM := hM.front (k := 3) rfl
    replace hM := hM.front (k := 3) rfl
    replace hM : Mem _ _ [pt q1 #[.pointer (some ⟨m2, 0, none⟩), .int .i64 3, .slice (some ⟨nb4, 0, none⟩) 5 5, .slice (some ⟨ob5, 0, none⟩) 1 1] 128, pt nb4 #[.slice none 0 0, .int .i64 0, .slice none 0 0, .int .i64 0, .slice none 0 0, .int .i64 0, .slice none 0 0, .int .i64 0, .slice a15 X.length c16, .int .i64 b] 77, pt b20 #[.slice a18 X.length c19, .int .i64 b] 77, own 3 1 (.slice a18 X.length c19) X.length (X.map (Value.int .i64)), own 3 1 (.slice a15 X.length c16) X.length (X.map (Value.int .i64)), own 3 1 (.slice az1 X.length c10) X.length (Z11.map (Value.int .i64)), own 3 1 (.slice a13 X.length c14) X.length (X.map (Value.int .i64)), pt ob5 #[.slice none 0 0] 43, memO m2 c3 (linkL (List.replicate (3 + (5 + 1) : Int).toNat 0) 3 5 (5 : Int).toNat) (0 + 1 + 5) op6] _ := hM
    refine S.callg (dj := 84) hA (by kernel_rfl) rfl (R.callF Try.func46 rfl rfl rfl) rfl (pbound_ok q1 m2 nb4 5 ob5 1 3 4 [.slice none 0 0, .int .i64 0, .slice none 0 0, .int .i64 0, .slice none 0 0, .int .i64 0, .slice none 0 0, .int .i64 0, .slice a15 X.length c16, .int .i64 b] b (by decide) rfl _ (hM.hereN 2)) ?_; clear hA a
    rintro e w14 ⟨rfl, hn⟩
    replace hM : Mem _ _ [pt q1 #[.pointer (some ⟨m2, 0, none⟩), .int .i64 3, .slice (some ⟨nb4, 0, none⟩) 5 5, .slice (some ⟨ob5, 0, none⟩) 1 1] 128, pt nb4 #[.slice none 0 0, .int .i64 0, .slice none 0 0, .int .i64 0, .slice none 0 0, .int .i64 0, .slice none 0 0, .int .i64 0, .slice a15 X.length c16, .int .i64 b] 77, pt b20 #[.slice a18 X.length c19, .int .i64 b] 77, own 3 1 (.slice a18 X.length c19) X.length (X.map (Value.int .i64)), own 3 1 (.slice a15 X.length c16) X.length (X.map (Value.int .i64)), own 3 1 (.slice az1 X.length c10) X.length (Z11.map (Value.int .i64)), own 3 1 (.slice a13 X.length c14) X.length (X.map (Value.int .i64)), pt ob5 #[.slice none 0 0] 43, memO m2 c3 (linkL (List.replicate (3 + (5 + 1) : Int).toNat 0) 3 5 (5 : Int).toNat) (0 + 1 + 5) op6] _ := hM.callL 2 hn; clear hn
    refine ⟨.int .i64 b, rfl, fun a hA => ?_⟩
    refine S.valg (dj := 84) hA (by kernel_rfl) rfl (R.move rfl) rfl ?_; clear hA a; intro a hA
    refine S.valg (dj := 84) hA (by kernel_rfl) rfl (R.ff (R.neq rfl rfl) (by first | omega | (simp; done))) rfl ?_; clear hA a; intro a hA
    refine S.val hA (R.pickF rfl rfl) rfl ?_; clear hA a; intro a hA
    refine S.done ?_
    replace hA : St 124 [(0, _), (6, _), (7, _), (10, _), (12, _), (90, _)] a := hA.sub ((.cons rfl (.cons rfl (.cons rfl (.cons rfl (.cons rfl (.cons rfl .nil)))))))
    refine Ends.condF hA rfl ?_
    refine Ends.skip ?_
    refine Ends.seq ?_
    refine Ends.seq ?_
    refine Ends.region ?_
    refine S.val hA (R.assign rfl) rfl ?_; clear hA a; intro a hA
    refine S.done ?_
    replace hA : St 124 [(0, _), (6, _), (7, _), (10, _), (12, _), (13, _)] a := hA.sub ((.cons rfl (.cons rfl (.cons rfl (.cons rfl (.cons rfl (.cons rfl .nil)))))))
    refine Ends.block ?_
    refine Ends.loop (σ := Nat × List Int × Option Addr) (fun (k, Z13, az2) (a : Act) (wv : World) => St 124 [(0, .int .i64 4), (6, .bool false), (7, .pointer (some ⟨q1, 0, none⟩)), (10, .slice a13 X.length c14), (12, .pointer (some ⟨b20, 0, none⟩)), (13, .int .i64 ((k : Int)))] a ∧ Mem w nof [pt q1 #[.pointer (some ⟨m2, 0, none⟩), .int .i64 3, .slice (some ⟨nb4, 0, none⟩) 5 5, .slice (some ⟨ob5, 0, none⟩) 1 1] 128, pt nb4 #[.slice none 0 0, .int .i64 0, .slice none 0 0, .int .i64 0, .slice none 0 0, .int .i64 0, .slice none 0 0, .int .i64 0, .slice a15 X.length c16, .int .i64 b] 77, pt b20 #[.slice az2 X.length c19, .int .i64 b] 77, own 3 1 (.slice az2 X.length c19) X.length (Z13.map (Value.int .i64)), own 3 1 (.slice a15 X.length c16) X.length (X.map (Value.int .i64)), own 3 1 (.slice az1 X.length c10) X.length (Z11.map (Value.int .i64)), own 3 1 (.slice a13 X.length c14) X.length (X.map (Value.int .i64)), pt ob5 #[.slice none 0 0] 43, memO m2 c3 (linkL (List.replicate (3 + (5 + 1) : Int).toNat 0) 3 5 (5 : Int).toNat) (0 + 1 + 5) op6] wv ∧ (k ≤ X.length) ∧ (Z13.length = X.length)) (fun (k, Z13, az2) => X.length - k) ((0, X, a18)) ⟨hA.sub ((.cons rfl (.cons rfl (.cons rfl (.cons rfl (.cons rfl (.cons rfl .nil))))))), hM, (by omega), rfl⟩ ?_
    clear hA hM a
    rintro ⟨k, Z13, az2⟩ a w15 ⟨hA, hM, hk, hZ13⟩ hNext1
    refine Ends.seq ?_
    refine Ends.seq ?_
    refine Ends.region ?_
    refine S.val hA (R.move rfl) rfl ?_; clear hA a; intro a hA
    refine S.val hA (R.fieldAddr (q := 0) fi77_0 rfl rfl rfl) rfl ?_; clear hA a; intro a hA
    refine S.val hA (R.load sz43 rfl (hM.cell (k := 2) rfl rfl)) rfl ?_; clear hA a; intro a hA
    refine S.val hA (R.lenS Try.underlying43 rfl rfl) rfl ?_; clear hA a; intro a hA
    refine S.val hA (R.lss rfl rfl) rfl ?_; clear hA a; intro a hA
    refine S.done ?_
    replace hA : St 124 [(0, _), (6, _), (7, _), (10, _), (12, _), (13, _), (91, _), (92, _), (93, _), (94, _), (95, _)] a := hA.sub ((.cons rfl (.cons rfl (.cons rfl (.cons rfl (.cons rfl (.cons rfl (.cons rfl (.cons rfl (.cons rfl (.cons rfl (.cons rfl .nil))))))))))))
    refine Ends.ite hA rfl (fun hc22 => ?_) (fun hc22 => ?_)
    ·
      refine Ends.skip ?_
      refine Ends.seq ?_
      refine Ends.block ?_
      obtain ⟨gz, hgz⟩ := hM.ownAt (k := 3) rfl (by omega)
      subst hgz
      replace hM : Mem _ _ [pt q1 #[.pointer (some ⟨m2, 0, none⟩), .int .i64 3, .slice (some ⟨nb4, 0, none⟩) 5 5, .slice (some ⟨ob5, 0, none⟩) 1 1] 128, pt nb4 #[.slice none 0 0, .int .i64 0, .slice none 0 0, .int .i64 0, .slice none 0 0, .int .i64 0, .slice none 0 0, .int .i64 0, .slice a15 X.length c16, .int .i64 b] 77, pt b20 #[.slice (some ⟨gz, 0, none⟩) X.length c19, .int .i64 b] 77, own 3 1 (.slice (some ⟨gz, 0, none⟩) X.length c19) X.length (Z13.map (Value.int .i64)), own 3 1 (.slice a15 X.length c16) X.length (X.map (Value.int .i64)), own 3 1 (.slice az1 X.length c10) X.length (Z11.map (Value.int .i64)), own 3 1 (.slice a13 X.length c14) X.length (X.map (Value.int .i64)), pt ob5 #[.slice none 0 0] 43, memO m2 c3 (linkL (List.replicate (3 + (5 + 1) : Int).toNat 0) 3 5 (5 : Int).toNat) (0 + 1 + 5) op6] _ := hM
      refine Ends.drawn (Mem w nof [pt q1 #[.pointer (some ⟨m2, 0, none⟩), .int .i64 3, .slice (some ⟨nb4, 0, none⟩) 5 5, .slice (some ⟨ob5, 0, none⟩) 1 1] 128, pt nb4 #[.slice none 0 0, .int .i64 0, .slice none 0 0, .int .i64 0, .slice none 0 0, .int .i64 0, .slice none 0 0, .int .i64 0, .slice a15 X.length c16, .int .i64 b] 77, pt b20 #[.slice (some ⟨gz, 0, none⟩) X.length c19, .int .i64 b] 77, own 3 1 (.slice (some ⟨gz, 0, none⟩) X.length c19) X.length (Z13.map (Value.int .i64)), own 3 1 (.slice a15 X.length c16) X.length (X.map (Value.int .i64)), own 3 1 (.slice az1 X.length c10) X.length (Z11.map (Value.int .i64)), own 3 1 (.slice a13 X.length c14) X.length (X.map (Value.int .i64)), pt ob5 #[.slice none 0 0] 43]) (.cons (0, true) (.cons (1, true) (.cons (2, true) (.cons (3, true) (.cons (4, true) (.cons (5, true) (.cons (6, true) (.cons (7, true) (.cons (8, true) (.cons (9, true) (.cons (10, false) .nil))))))))))) 10 mixed (by kernel_rfl) (by kernel_rfl) (by kernel_rfl) (hM.drop 8).drew ?_
      replace hM := hM.drew
      refine D.valF hA rfl (fun _ => R.fieldAddr (q := 0) fi77_0 rfl rfl rfl) rfl ?_; clear hA a; intro a hA
      refine D.val hA rfl (by kernel_rfl) (fun _ hM => R.load sz43 rfl (hM.cell (k := 2) rfl rfl)) rfl ?_; clear hA a; intro a hA
      refine D.valF hA rfl (fun _ => R.move rfl) rfl ?_; clear hA a; intro a hA
      refine D.valF hA rfl (fun _ => R.fieldAddr (q := 0) fi77_0 rfl rfl rfl) rfl ?_; clear hA a; intro a hA
      refine D.val hA rfl (by kernel_rfl) (fun _ hM => R.load sz43 rfl (hM.cell (k := 2) rfl rfl)) rfl ?_; clear hA a; intro a hA
      refine D.valF hA rfl (fun _ => R.move rfl) rfl ?_; clear hA a; intro a hA
      refine D.valF hA rfl (fun _ => R.indexAddr (q := k) sl43 rfl rfl (by first | omega | (simp; done)) (by first | omega | (simp; done))) rfl ?_; clear hA a; intro a hA
      refine D.val hA rfl (by kernel_rfl) (fun _ hM => R.load sz3 rfl (hM.ownCell (k := 3) rfl (mapi_get _ _ (by first | omega | (simp; done))))) rfl ?_; clear hA a; intro a hA
      refine D.valF hA rfl (fun _ => R.bits (by simp) rfl rfl) rfl ?_; clear hA a; intro a hA
      refine D.valF hA rfl (fun _ => R.indexAddr (q := k) sl43 rfl rfl (by first | omega | (simp; done)) (by first | omega | (simp; done))) rfl ?_; clear hA a; intro a hA
      refine D.storeO (k := 3) hA hM rfl sz3 rfl rfl rfl rfl (mapi_get Z13 k (by first | omega | (simp; done))) ?_; clear hM; intro w16 hM; rw [mapi_set] at hM
      refine ⟨fun hne => absurd rfl hne, ?_⟩
      replace hM : Mem _ _ [pt q1 #[.pointer (some ⟨m2, 0, none⟩), .int .i64 3, .slice (some ⟨nb4, 0, none⟩) 5 5, .slice (some ⟨ob5, 0, none⟩) 1 1] 128, pt nb4 #[.slice none 0 0, .int .i64 0, .slice none 0 0, .int .i64 0, .slice none 0 0, .int .i64 0, .slice none 0 0, .int .i64 0, .slice a15 X.length c16, .int .i64 b] 77, pt b20 #[.slice (some ⟨gz, 0, none⟩) X.length c19, .int .i64 b] 77, own 3 1 (.slice (some ⟨gz, 0, none⟩) X.length c19) X.length (((Z13.set k (bits .xor .i64 (Z13.getD k 0) 3))).map (Value.int .i64)), own 3 1 (.slice a15 X.length c16) X.length (X.map (Value.int .i64)), own 3 1 (.slice az1 X.length c10) X.length (Z11.map (Value.int .i64)), own 3 1 (.slice a13 X.length c14) X.length (X.map (Value.int .i64)), pt ob5 #[.slice none 0 0] 43, memO m2 c3 (linkL (List.replicate (3 + (5 + 1) : Int).toNat 0) 3 5 (5 : Int).toNat) (0 + 1 + 5) op6] _ := hM
      refine D.done ?_
      replace hA : St 124 [(0, _), (6, _), (7, _), (10, _), (12, _), (13, _), (91, _), (92, _), (93, _), (94, _), (95, _), (98, _), (99, _), (100, _), (101, _), (102, _), (103, _), (104, _), (105, _), (106, _), (107, _)] a := hA.sub ((.cons rfl (.cons rfl (.cons rfl (.cons rfl (.cons rfl (.cons rfl (.cons rfl (.cons rfl (.cons rfl (.cons rfl (.cons rfl (.cons rfl (.cons rfl (.cons rfl (.cons rfl (.cons rfl (.cons rfl (.cons rfl (.cons rfl (.cons rfl (.cons rfl .nil))))))))))))))))))))))
      refine Ends.inBlock ?_
      refine Ends.region ?_
      refine S.val hA (R.move rfl) rfl ?_; clear hA a; intro a hA
      refine S.val hA (R.addI rfl rfl (r := ((k : Int)) + 1) rfl (by first | omega | (simp; done))) rfl ?_; clear hA a; intro a hA
      refine S.val hA (R.assign rfl) rfl ?_; clear hA a; intro a hA
      refine S.done ?_
      replace hA : St 124 [(0, _), (6, _), (7, _), (10, _), (12, _), (13, _), (91, _), (92, _), (93, _), (94, _), (95, _), (96, _), (97, _), (98, _), (99, _), (100, _), (101, _), (102, _), (103, _), (104, _), (105, _), (106, _), (107, _)] a := hA.sub ((.cons rfl (.cons rfl (.cons rfl (.cons rfl (.cons rfl (.cons rfl (.cons rfl (.cons rfl (.cons rfl (.cons rfl (.cons rfl (.cons rfl (.cons rfl (.cons rfl (.cons rfl (.cons rfl (.cons rfl (.cons rfl (.cons rfl (.cons rfl (.cons rfl (.cons rfl (.cons rfl .nil))))))))))))))))))))))))
      exact hNext1 ((k + 1, (Z13.set k (bits .xor .i64 (Z13.getD k 0) 3)), some ⟨gz, 0, none⟩)) _ _ ((by show X.length - (k + 1) < X.length - k; omega)) ⟨hA.sub ((.cons rfl (.cons rfl (.cons rfl (.cons rfl (.cons rfl (.cons rfl .nil))))))), hM, (by omega), (by rw [List.length_set]; exact hZ13)⟩
    ·
      refine Ends.exit rfl ?_
      replace hA : St 124 [(0, _), (6, _), (7, _), (10, _)] a := hA.sub ((.cons rfl (.cons rfl (.cons rfl (.cons rfl .nil)))))
      refine Ends.seq ?_
      refine Ends.region ?_
      refine S.val hA (R.move rfl) rfl ?_; clear hA a; intro a hA
      refine S.val hA (R.move rfl) rfl ?_; clear hA a; intro a hA
      replace hM := hM.front (k := 4) rfl
      replace hM := hM.front (k := 2) rfl
      replace hM := hM.front (k := 2) rfl
      replace hM : Mem _ _ [pt q1 #[.pointer (some ⟨m2, 0, none⟩), .int .i64 3, .slice (some ⟨nb4, 0, none⟩) 5 5, .slice (some ⟨ob5, 0, none⟩) 1 1] 128, pt nb4 #[.slice none 0 0, .int .i64 0, .slice none 0 0, .int .i64 0, .slice none 0 0, .int .i64 0, .slice none 0 0, .int .i64 0, .slice a15 X.length c16, .int .i64 b] 77, own 3 1 (.slice a15 X.length c16) X.length (X.map (Value.int .i64)), pt b20 #[.slice az2 X.length c19, .int .i64 b] 77, own 3 1 (.slice az2 X.length c19) X.length (Z13.map (Value.int .i64)), own 3 1 (.slice az1 X.length c10) X.length (Z11.map (Value.int .i64)), own 3 1 (.slice a13 X.length c14) X.length (X.map (Value.int .i64)), pt ob5 #[.slice none 0 0] 43, memO m2 c3 (linkL (List.replicate (3 + (5 + 1) : Int).toNat 0) 3 5 (5 : Int).toNat) (0 + 1 + 5) op6] _ := hM
      refine S.call hA (R.callF Try.func45 rfl rfl rfl) rfl (pnode_ok q1 m2 nb4 5 ob5 1 3 4 [.slice none 0 0, .int .i64 0, .slice none 0 0, .int .i64 0, .slice none 0 0, .int .i64 0, .slice none 0 0, .int .i64 0, .slice a15 X.length c16, .int .i64 b] a15 X c16 b (by first | omega | decide | (simp; done) | (simp; omega)) (by decide) rfl _ (hM.hereN 3)) ?_; clear hA a
      rintro e w17 ⟨a23, c24, rfl, hn⟩
      replace hM : Mem _ _ [own 3 1 (.slice a23 X.length c24) X.length (X.map (Value.int .i64)), pt q1 #[.pointer (some ⟨m2, 0, none⟩), .int .i64 3, .slice (some ⟨nb4, 0, none⟩) 5 5, .slice (some ⟨ob5, 0, none⟩) 1 1] 128, pt nb4 #[.slice none 0 0, .int .i64 0, .slice none 0 0, .int .i64 0, .slice none 0 0, .int .i64 0, .slice none 0 0, .int .i64 0, .slice a15 X.length c16, .int .i64 b] 77, own 3 1 (.slice a15 X.length c16) X.length (X.map (Value.int .i64)), pt b20 #[.slice az2 X.length c19, .int .i64 b] 77, own 3 1 (.slice az2 X.length c19) X.length (Z13.map (Value.int .i64)), own 3 1 (.slice az1 X.length c10) X.length (Z11.map (Value.int .i64)), own 3 1 (.slice a13 X.length c14) X.length (X.map (Value.int .i64)), pt ob5 #[.slice none 0 0] 43, memO m2 c3 (linkL (List.replicate (3 + (5 + 1) : Int).toNat 0) 3 5 (5 : Int).toNat) (0 + 1 + 5) op6] _ := hM.callL 3 hn; clear hn
      refine ⟨.agg #[.slice a23 X.length c24, .int .i64 b], rfl, fun a hA => ?_⟩
      refine S.val hA (R.field fi77_0 rfl rfl) rfl ?_; clear hA a; intro a hA
      refine S.val hA (R.move rfl) rfl ?_; clear hA a; intro a hA
      refine S.call hA (R.callF Try.func40 rfl rfl rfl) rfl (same09_eq (.slice a23 X.length c24) (.slice a13 X.length c14) X _ (hM.intSl (k := 0) rfl) (hM.intSl (k := 7) rfl)) ?_; clear hA a
      rintro e w18 ⟨rfl, hb⟩
      replace hM := hM.callB hb; clear hb
      refine ⟨.bool true, rfl, fun a hA => ?_⟩
      refine S.val hA (R.move rfl) rfl ?_; clear hA a; intro a hA
      refine S.valg (dj := 114) hA (by kernel_rfl) rfl (R.move rfl) rfl ?_; clear hA a; intro a hA
      refine S.valg (dj := 114) hA (by kernel_rfl) rfl (R.move rfl) rfl ?_; clear hA a; intro a hA
      refine S.valg (dj := 114) hA (by kernel_rfl) rfl (R.addI rfl rfl (r := 5) rfl (by first | omega | (simp; done))) rfl ?_; clear hA a; intro a hA
      refine S.valg (dj := 114) hA (by kernel_rfl) rfl (R.to (v := .int .i64 0) (R.remI rfl rfl rfl (by decide)) (congrArg (Value.int .i64) (by decide))) rfl ?_; clear hA a; intro a hA
      replace hM := hM.ownNil 3 1
      replace hM : Mem _ _ [own 3 1 (.slice none ((([] : List Int)).length) 0) ((([] : List Int)).length) ((([] : List Int)).map (Value.int .i64)), own 3 1 (.slice a23 X.length c24) X.length (X.map (Value.int .i64)), pt q1 #[.pointer (some ⟨m2, 0, none⟩), .int .i64 3, .slice (some ⟨nb4, 0, none⟩) 5 5, .slice (some ⟨ob5, 0, none⟩) 1 1] 128, pt nb4 #[.slice none 0 0, .int .i64 0, .slice none 0 0, .int .i64 0, .slice none 0 0, .int .i64 0, .slice none 0 0, .int .i64 0, .slice a15 X.length c16, .int .i64 b] 77, own 3 1 (.slice a15 X.length c16) X.length (X.map (Value.int .i64)), pt b20 #[.slice az2 X.length c19, .int .i64 b] 77, own 3 1 (.slice az2 X.length c19) X.length (Z13.map (Value.int .i64)), own 3 1 (.slice az1 X.length c10) X.length (Z11.map (Value.int .i64)), own 3 1 (.slice a13 X.length c14) X.length (X.map (Value.int .i64)), pt ob5 #[.slice none 0 0] 43, memO m2 c3 (linkL (List.replicate (3 + (5 + 1) : Int).toNat 0) 3 5 (5 : Int).toNat) (0 + 1 + 5) op6] _ := hM
      replace hM := hM.front (k := 3) rfl
      replace hM := hM.front (k := 3) rfl
      replace hM : Mem _ _ [pt q1 #[.pointer (some ⟨m2, 0, none⟩), .int .i64 3, .slice (some ⟨nb4, 0, none⟩) 5 5, .slice (some ⟨ob5, 0, none⟩) 1 1] 128, pt nb4 #[.slice none 0 0, .int .i64 0, .slice none 0 0, .int .i64 0, .slice none 0 0, .int .i64 0, .slice none 0 0, .int .i64 0, .slice a15 X.length c16, .int .i64 b] 77, own 3 1 (.slice none ((([] : List Int)).length) 0) ((([] : List Int)).length) ((([] : List Int)).map (Value.int .i64)), own 3 1 (.slice a23 X.length c24) X.length (X.map (Value.int .i64)), own 3 1 (.slice a15 X.length c16) X.length (X.map (Value.int .i64)), pt b20 #[.slice az2 X.length c19, .int .i64 b] 77, own 3 1 (.slice az2 X.length c19) X.length (Z13.map (Value.int .i64)), own 3 1 (.slice az1 X.length c10) X.length (Z11.map (Value.int .i64)), own 3 1 (.slice a13 X.length c14) X.length (X.map (Value.int .i64)), pt ob5 #[.slice none 0 0] 43, memO m2 c3 (linkL (List.replicate (3 + (5 + 1) : Int).toNat 0) 3 5 (5 : Int).toNat) (0 + 1 + 5) op6] _ := hM
      refine S.callg (dj := 114) hA (by kernel_rfl) rfl (R.callF Try.func45 rfl rfl rfl) rfl (pnode_ok q1 m2 nb4 5 ob5 1 3 0 [.slice none 0 0, .int .i64 0, .slice none 0 0, .int .i64 0, .slice none 0 0, .int .i64 0, .slice none 0 0, .int .i64 0, .slice a15 X.length c16, .int .i64 b] none (([] : List Int)) 0 0 (by first | omega | decide | (simp; done) | (simp; omega)) (by decide) rfl _ (hM.hereN 3)) ?_; clear hA a
      rintro e w19 ⟨a25, c26, rfl, hn⟩
      replace hM : Mem _ _ [own 3 1 (.slice a25 ((([] : List Int)).length) c26) ((([] : List Int)).length) ((([] : List Int)).map (Value.int .i64)), pt q1 #[.pointer (some ⟨m2, 0, none⟩), .int .i64 3, .slice (some ⟨nb4, 0, none⟩) 5 5, .slice (some ⟨ob5, 0, none⟩) 1 1] 128, pt nb4 #[.slice none 0 0, .int .i64 0, .slice none 0 0, .int .i64 0, .slice none 0 0, .int .i64 0, .slice none 0 0, .int .i64 0, .slice a15 X.length c16, .int .i64 b] 77, own 3 1 (.slice none ((([] : List Int)).length) 0) ((([] : List Int)).length) ((([] : List Int)).map (Value.int .i64)), own 3 1 (.slice a23 X.length c24) X.length (X.map (Value.int .i64)), own 3 1 (.slice a15 X.length c16) X.length (X.map (Value.int .i64)), pt b20 #[.slice az2 X.length c19, .int .i64 b] 77, own 3 1 (.slice az2 X.length c19) X.length (Z13.map (Value.int .i64)), own 3 1 (.slice az1 X.length c10) X.length (Z11.map (Value.int .i64)), own 3 1 (.slice a13 X.length c14) X.length (X.map (Value.int .i64)), pt ob5 #[.slice none 0 0] 43, memO m2 c3 (linkL (List.replicate (3 + (5 + 1) : Int).toNat 0) 3 5 (5 : Int).toNat) (0 + 1 + 5) op6] _ := hM.callL 3 hn; clear hn
      refine ⟨.agg #[.slice a25 ((([] : List Int)).length) c26, .int .i64 0], rfl, fun a hA => ?_⟩
      refine S.valg (dj := 114) hA (by kernel_rfl) rfl (R.field fi77_0 rfl rfl) rfl ?_; clear hA a; intro a hA
      refine S.valg (dj := 114) hA (by kernel_rfl) rfl (R.lenS Try.underlying43 rfl rfl) rfl ?_; clear hA a; intro a hA
      refine S.valg (dj := 114) hA (by kernel_rfl) rfl (R.eql rfl rfl) rfl ?_; clear hA a; intro a hA
      refine S.val hA (R.pickT rfl rfl) rfl ?_; clear hA a; intro a hA
      refine S.val hA (R.assign rfl) rfl ?_; clear hA a; intro a hA
      refine S.done ?_
      replace hA : St 124 [(6, _)] a := hA.sub ((.cons rfl .nil))
      refine Ends.ret1 Try.func9 Try.results9 hA rfl ?_
      exact ⟨rfl, hM.nilL.below⟩
theorem poolKeeps_any (slot : Int) (v : Value) (l : List Int) (b : Int) (w : World) (_hs : (Lit.int .i64 slot).wf = true) (hsl : IntSl w v l) (_hl : ∀ x ∈ l, (Lit.int .i64 x).wf = true) (_hb : (Lit.int .i64 b).wf = true) :
    Calls Try.prog 9 #[.int .i64 slot, v, .int .i64 b] w fun e w' => e = .returned (.bool true) ∧ Below w.heap.size w w' := by
  obtain ⟨ad, cap, rfl⟩ := hsl.form
  by_cases h : 0 ≤ slot ∧ slot < 5
  · obtain h | h | h | h | h : slot = 0 ∨ slot = 1 ∨ slot = 2 ∨ slot = 3 ∨ slot = 4 := by omega
    · subst h; exact poolKeeps_0 b ad l.length cap l rfl w hsl
    · subst h; exact poolKeeps_1 b ad l.length cap l rfl w hsl
    · subst h; exact poolKeeps_2 b ad l.length cap l rfl w hsl
    · subst h; exact poolKeeps_3 b ad l.length cap l rfl w hsl
    · subst h; exact poolKeeps_4 b ad l.length cap l rfl w hsl
  · exact poolKeeps_bad slot b h ad l.length cap l rfl w hsl
end Go.Proofs.Ytjjbognomeplbaa
