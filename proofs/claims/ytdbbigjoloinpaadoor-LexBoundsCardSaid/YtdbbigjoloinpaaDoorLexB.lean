/-
  The law LexBounds.
-/
import Derived.Test.YtdbbigjoloinpaaDoorLexL
import Derived.Test.YtdbbigjoloinpaaDoorLex3
namespace Go.Proofs.YtdbbigjoloinpaaDoor
open Go.RowKit

set_option maxRecDepth 100000 in
set_option maxHeartbeats 400000 in
theorem lexBounds_w (x0 x1 x2 : Int) (w : World) (htab : U8T w) :
    Calls Tryd.prog 6 #[.int .i64 x0, .int .i64 x1, .int .i64 x2] w fun e w' => e = .returned (.bool true) ∧ Below w.heap.size w w' := by
  have hM := Mem.start w
  refine Calls.of_ends (vs := [.int .i64 x0, .int .i64 x1, .int .i64 x2]) Tryd.func6 rfl Tryd.ntmps6 rfl ?_
  intro a hA
  replace hA : St 148 [(0, _), (1, _), (2, _)] a := hA
  refine Ends.seq ?_
  refine Ends.region ?_
  refine S.val hA (R.assign rfl) rfl ?_; clear hA a; intro a hA
  refine S.done ?_
  replace hA : St 148 [(0, _), (1, _), (2, _)] a := hA.sub ((.cons rfl (.cons rfl (.cons rfl .nil))))
  refine Ends.seq ?_
  refine Ends.region ?_
  refine S.val hA (R.move rfl) rfl ?_; clear hA a; intro a hA
  refine S.val hA (R.conv Tryd.underlying39 Tryd.underlying3 rfl) rfl ?_; clear hA a; intro a hA
  refine S.val hA (R.remI rfl rfl rfl ⟨u64_nn _, by decide⟩) rfl ?_; clear hA a; intro a hA
  obtain ⟨n1, hn2, en3⟩ := umod_ex x0 12 (by decide)
  refine S.val hA (R.to (v := .int .i64 (n1 : Int)) (R.conv Tryd.underlying3 Tryd.underlying39 rfl) (congrArg (Value.int .i64) en3)) rfl ?_; clear hA a; intro a hA
  obtain ⟨N, hN⟩ : ∃ N : Nat, 65530 + ((n1 : Int)) = (N : Int) := ⟨(65530 + ((n1 : Int))).toNat, by omega⟩
  refine S.val hA (R.addI rfl rfl (r := (N : Int)) hN (by omega)) rfl ?_; clear hA a; intro a hA
  refine S.val hA (R.move rfl) rfl ?_; clear hA a; intro a hA
  refine S.val hA (R.conv Tryd.underlying39 Tryd.underlying3 rfl) rfl ?_; clear hA a; intro a hA
  refine S.val hA (R.remI rfl rfl rfl ⟨u64_nn _, by decide⟩) rfl ?_; clear hA a; intro a hA
  obtain ⟨n4, hn5, en6⟩ := umod_ex x1 20 (by decide)
  refine S.val hA (R.to (v := .int .i64 (n4 : Int)) (R.conv Tryd.underlying3 Tryd.underlying39 rfl) (congrArg (Value.int .i64) en6)) rfl ?_; clear hA a; intro a hA
  obtain ⟨m, hm⟩ : ∃ m : Nat, 1 + ((n4 : Int)) = (m : Int) := ⟨(1 + ((n4 : Int))).toNat, by omega⟩
  refine S.val hA (R.addI rfl rfl (r := (m : Int)) hm (by omega)) rfl ?_; clear hA a; intro a hA
  refine S.val hA (R.move rfl) rfl ?_; clear hA a; intro a hA
  refine S.val hA (R.conv Tryd.underlying39 Tryd.underlying3 rfl) rfl ?_; clear hA a; intro a hA
  refine S.val hA (R.remI rfl rfl rfl ⟨u64_nn _, by decide⟩) rfl ?_; clear hA a; intro a hA
  obtain ⟨n7, hn8, en9⟩ := umod_ex x2 22 (by decide)
  refine S.val hA (R.to (v := .int .i64 (n7 : Int)) (R.conv Tryd.underlying3 Tryd.underlying39 rfl) (congrArg (Value.int .i64) en9)) rfl ?_; clear hA a; intro a hA
  obtain ⟨d, hd⟩ : ∃ d : Nat, 1 + ((n7 : Int)) = (d : Int) := ⟨(1 + ((n7 : Int))).toNat, by omega⟩
  refine S.val hA (R.addI rfl rfl (r := (d : Int)) hd (by omega)) rfl ?_; clear hA a; intro a hA
  refine S.val hA (R.assign rfl) rfl ?_; clear hA a; intro a hA
  refine S.val hA (R.assign rfl) rfl ?_; clear hA a; intro a hA
  refine S.val hA (R.assign rfl) rfl ?_; clear hA a; intro a hA
  refine S.done ?_
  replace hA : St 148 [(0, _), (1, _), (2, _)] a := hA.sub ((.cons rfl (.cons rfl (.cons rfl .nil))))
  refine Ends.seq ?_
  refine Ends.region ?_
  refine S.val hA (R.move rfl) rfl ?_; clear hA a; intro a hA
  refine S.make hA hM Tryd.underlying33 info5 rfl rfl rfl (by omega) (by show (1 : Int) * _ ≤ _; omega) (by omega) rfl ?_; clear hA hM a; intro b10 w1 hb11 hM a hA
  replace hM : Mem _ _ [pt b10 (madeCells #[.int .u8 0] (N * 1)) 5] _ := hM
  rw [Nat.mul_one, made_bys] at hM
  replace hM : Mem _ _ [pt b10 ((bys (List.replicate N 0))) 5] _ := hM
  refine S.val hA (R.assign rfl) rfl ?_; clear hA a; intro a hA
  refine S.done ?_
  replace hA : St 148 [(0, _), (1, _), (2, _), (7, _)] a := hA.sub ((.cons rfl (.cons rfl (.cons rfl (.cons rfl .nil)))))
  refine Ends.seq ?_
  refine Ends.seq ?_
  refine Ends.region ?_
  refine S.val hA (R.assign rfl) rfl ?_; clear hA a; intro a hA
  refine S.done ?_
  replace hA : St 148 [(0, _), (1, _), (2, _), (7, _), (8, _)] a := hA.sub ((.cons rfl (.cons rfl (.cons rfl (.cons rfl (.cons rfl .nil))))))
  refine Ends.block ?_
  rw [show List.replicate N (0 : Int) = List.replicate 0 (32 : Int) ++ List.replicate (N - 0) 0 from rfl] at hM
  refine Ends.loop (σ := Nat) (fun i (a : Act) (wv : World) => St 148 [(0, .int .i64 ((N : Int))), (1, .int .i64 ((m : Int))), (2, .int .i64 ((d : Int))), (7, .slice (some ⟨b10, 0, none⟩) N N), (8, .int .i64 ((i : Int)))] a ∧ Mem w nof [pt b10 ((bys (List.replicate i (32 : Int) ++ List.replicate (N - i) (0 : Int)))) 5] wv ∧ (i ≤ N)) (fun i => N - i) 0 ⟨hA.sub ((.cons rfl (.cons rfl (.cons rfl (.cons rfl (.cons rfl .nil)))))), hM, (Nat.zero_le _)⟩ ?_
  clear hA hM a
  rintro i a w2 ⟨hA, hM, hi⟩ hNext
  refine Ends.seq ?_
  refine Ends.seq ?_
  refine Ends.region ?_
  refine S.val hA (R.move rfl) rfl ?_; clear hA a; intro a hA
  refine S.val hA (R.move rfl) rfl ?_; clear hA a; intro a hA
  refine S.val hA (R.lss rfl rfl) rfl ?_; clear hA a; intro a hA
  refine S.done ?_
  replace hA : St 148 [(0, _), (1, _), (2, _), (7, _), (8, _), (41, _)] a := hA.sub ((.cons rfl (.cons rfl (.cons rfl (.cons rfl (.cons rfl (.cons rfl .nil)))))))
  refine Ends.ite hA rfl (fun hc12 => ?_) (fun hc12 => ?_)
  ·
    refine Ends.skip ?_
    refine Ends.seq ?_
    refine Ends.block ?_
    refine Ends.region ?_
    refine S.val hA (R.move rfl) rfl ?_; clear hA a; intro a hA
    refine S.val hA (R.move rfl) rfl ?_; clear hA a; intro a hA
    refine S.val hA (R.indexAddr (q := i) sl33 rfl rfl (by omega) (by omega)) rfl ?_; clear hA a; intro a hA
    refine S.store (k := 0) hA hM sz5 rfl rfl rfl rfl (bys_get _ _ (by simp; omega)) ?_; clear hM
    intro w3 hM
    rw [bys_set] at hM
    replace hM : Mem _ _ [pt b10 ((bys (((List.replicate i (32 : Int) ++ List.replicate (N - i) (0 : Int))).set i 32))) 5] _ := hM
    refine S.done ?_
    replace hA : St 148 [(0, _), (1, _), (2, _), (7, _), (8, _)] a := hA.sub ((.cons rfl (.cons rfl (.cons rfl (.cons rfl (.cons rfl .nil))))))
    refine Ends.inBlock ?_
    refine Ends.region ?_
    refine S.val hA (R.move rfl) rfl ?_; clear hA a; intro a hA
    refine S.val hA (R.addI rfl rfl (r := ((i : Int)) + 1) rfl (by omega)) rfl ?_; clear hA a; intro a hA
    refine S.val hA (R.assign rfl) rfl ?_; clear hA a; intro a hA
    refine S.done ?_
    replace hA : St 148 [(0, _), (1, _), (2, _), (7, _), (8, _)] a := hA.sub ((.cons rfl (.cons rfl (.cons rfl (.cons rfl (.cons rfl .nil))))))
    rw [rep_set 32 0 i N (by omega)] at hM
    exact hNext ((i + 1)) _ _ ((by show N - (i + 1) < N - i; omega)) ⟨hA.sub ((.cons rfl (.cons rfl (.cons rfl (.cons rfl (.cons rfl .nil)))))), hM, (by omega)⟩
  ·
    refine Ends.exit rfl ?_
    replace hA : St 148 [(0, _), (1, _), (2, _), (7, _)] a := hA.sub ((.cons rfl (.cons rfl (.cons rfl (.cons rfl .nil)))))
    refine Ends.seq ?_
    have hiN : i = N := by omega
    rw [hiN, Nat.sub_self, List.replicate_zero, List.append_nil] at hM
    by_cases hs13 : 65536 < N
    ·
      refine Ends.region ?_
      refine S.val hA (R.move rfl) rfl ?_; clear hA a; intro a hA
      refine S.val hA (R.to (v := .string ⟨(List.replicate N 32).toArray⟩) (R.bytesStr (ns := List.replicate N 32) hM (k := 0) rfl Tryd.underlying33 Tryd.underlying5 Tryd.underlying9 (by rw [List.length_replicate]; rfl)) (by rw [List.map_replicate]; rfl)) rfl ?_; clear hA a; intro a hA
      obtain ⟨X16, hX17⟩ : ∃ X : List Tok, scan (⟨(List.replicate N 32).toArray⟩) = (X, 0, 5) := ⟨_, (scan_sp N).trans (if_pos hs13)⟩
      refine S.call hA (R.callF Tryd.func13 rfl rfl rfl) rfl (scan_eq (⟨(List.replicate N 32).toArray⟩) (by rw [size_mk, List.length_replicate]; omega) X16 0 5 hX17 _ (htab.mem hM OffT.nof)) ?_; clear hA a
      rintro e w4 ⟨a14, c15, rfl, hn⟩
      replace hM : Mem _ _ [own 36 4 (.slice a14 X16.length c15) X16.length (tokv X16), pt b10 ((bys (List.replicate N (32 : Int)))) 5] _ := hM.call hn; clear hn
      refine ⟨.tuple #[.slice a14 X16.length c15, .int .i64 0, .int .i64 5], rfl, fun a hA => ?_⟩
      refine S.val hA (R.move rfl) rfl ?_; clear hA a; intro a hA
      refine S.val hA (R.extract (v := .slice a14 X16.length c15) rfl rfl) rfl ?_; clear hA a; intro a hA
      refine S.val hA (R.extract (v := .int .i64 0) rfl rfl) rfl ?_; clear hA a; intro a hA
      refine S.val hA (R.extract (v := .int .i64 5) rfl rfl) rfl ?_; clear hA a; intro a hA
      refine S.val hA (R.assign rfl) rfl ?_; clear hA a; intro a hA
      refine S.val hA (R.assign rfl) rfl ?_; clear hA a; intro a hA
      refine S.val hA (R.assign rfl) rfl ?_; clear hA a; intro a hA
      refine S.done ?_
      replace hA : St 148 [(0, _), (1, _), (2, _), (10, _), (11, _)] a := hA.sub ((.cons rfl (.cons rfl (.cons rfl (.cons rfl (.cons rfl .nil))))))
      refine Ends.seq ?_
      refine Ends.region ?_
      refine S.val hA (R.assign rfl) rfl ?_; clear hA a; intro a hA
      refine S.val hA (R.assign rfl) rfl ?_; clear hA a; intro a hA
      refine S.done ?_
      replace hA : St 148 [(0, _), (1, _), (2, _), (10, _), (11, _), (12, _), (13, _)] a := hA.sub ((.cons rfl (.cons rfl (.cons rfl (.cons rfl (.cons rfl (.cons rfl (.cons rfl .nil))))))))
      refine Ends.seq ?_
      refine Ends.seq ?_
      refine Ends.region ?_
      refine S.val hA (R.assign rfl) rfl ?_; clear hA a; intro a hA
      refine S.done ?_
      replace hA : St 148 [(0, _), (1, _), (2, _), (10, _), (11, _), (12, _), (13, _), (14, _)] a := hA.sub ((.cons rfl (.cons rfl (.cons rfl (.cons rfl (.cons rfl (.cons rfl (.cons rfl (.cons rfl .nil)))))))))
      refine Ends.block ?_
      refine Ends.loop (σ := Nat) (fun i2 (a : Act) (wv : World) => St 148 [(0, .int .i64 ((N : Int))), (1, .int .i64 ((m : Int))), (2, .int .i64 ((d : Int))), (10, .int .i64 0), (11, .int .i64 5), (12, .string (⟨(List.replicate i2 107).toArray⟩)), (13, .string (⟨#[]⟩)), (14, .int .i64 ((i2 : Int)))] a ∧ Mem w nof [own 36 4 (.slice a14 X16.length c15) X16.length (tokv X16), pt b10 ((bys (List.replicate N (32 : Int)))) 5] wv ∧ (i2 ≤ m)) (fun i2 => m - i2) 0 ⟨hA.sub ((.cons rfl (.cons rfl (.cons rfl (.cons rfl (.cons rfl (.cons rfl (.cons rfl (.cons rfl .nil))))))))), hM, (Nat.zero_le _)⟩ ?_
      clear hA hM a
      rintro i2 a w5 ⟨hA, hM, hi2⟩ hNext1
      refine Ends.seq ?_
      refine Ends.seq ?_
      refine Ends.region ?_
      refine S.val hA (R.move rfl) rfl ?_; clear hA a; intro a hA
      refine S.val hA (R.move rfl) rfl ?_; clear hA a; intro a hA
      refine S.val hA (R.lss rfl rfl) rfl ?_; clear hA a; intro a hA
      refine S.done ?_
      replace hA : St 148 [(0, _), (1, _), (2, _), (10, _), (11, _), (12, _), (13, _), (14, _), (56, _)] a := hA.sub ((.cons rfl (.cons rfl (.cons rfl (.cons rfl (.cons rfl (.cons rfl (.cons rfl (.cons rfl (.cons rfl .nil))))))))))
      refine Ends.ite hA rfl (fun hc18 => ?_) (fun hc18 => ?_)
      ·
        refine Ends.skip ?_
        refine Ends.seq ?_
        refine Ends.block ?_
        refine Ends.region ?_
        refine S.val hA (R.move rfl) rfl ?_; clear hA a; intro a hA
        refine S.val hA (R.to (v := .string ⟨(List.replicate (i2 + 1) 107).toArray⟩) (R.addS rfl rfl (by rw [size_mk, List.length_replicate]; show i2 + 1 ≤ _; omega)) (congrArg Value.string (ba_snocR 107 i2))) rfl ?_; clear hA a; intro a hA
        refine S.val hA (R.assign rfl) rfl ?_; clear hA a; intro a hA
        refine S.done ?_
        replace hA : St 148 [(0, _), (1, _), (2, _), (10, _), (11, _), (12, _), (13, _), (14, _)] a := hA.sub ((.cons rfl (.cons rfl (.cons rfl (.cons rfl (.cons rfl (.cons rfl (.cons rfl (.cons rfl .nil)))))))))
        refine Ends.inBlock ?_
        refine Ends.region ?_
        refine S.val hA (R.move rfl) rfl ?_; clear hA a; intro a hA
        refine S.val hA (R.addI rfl rfl (r := ((i2 : Int)) + 1) rfl (by omega)) rfl ?_; clear hA a; intro a hA
        refine S.val hA (R.assign rfl) rfl ?_; clear hA a; intro a hA
        refine S.done ?_
        replace hA : St 148 [(0, _), (1, _), (2, _), (10, _), (11, _), (12, _), (13, _), (14, _)] a := hA.sub ((.cons rfl (.cons rfl (.cons rfl (.cons rfl (.cons rfl (.cons rfl (.cons rfl (.cons rfl .nil)))))))))
        exact hNext1 ((i2 + 1)) _ _ ((by show m - (i2 + 1) < m - i2; omega)) ⟨hA.sub ((.cons rfl (.cons rfl (.cons rfl (.cons rfl (.cons rfl (.cons rfl (.cons rfl (.cons rfl .nil))))))))), hM, (by omega)⟩
      ·
        refine Ends.exit rfl ?_
        replace hA : St 148 [(0, _), (1, _), (2, _), (10, _), (11, _), (12, _), (13, _)] a := hA.sub ((.cons rfl (.cons rfl (.cons rfl (.cons rfl (.cons rfl (.cons rfl (.cons rfl .nil))))))))
        refine Ends.seq ?_
        refine Ends.seq ?_
        refine Ends.region ?_
        refine S.val hA (R.assign rfl) rfl ?_; clear hA a; intro a hA
        refine S.done ?_
        replace hA : St 148 [(0, _), (1, _), (2, _), (10, _), (11, _), (12, _), (13, _), (15, _)] a := hA.sub ((.cons rfl (.cons rfl (.cons rfl (.cons rfl (.cons rfl (.cons rfl (.cons rfl (.cons rfl .nil)))))))))
        refine Ends.block ?_
        refine Ends.loop (σ := Nat) (fun i3 (a : Act) (wv : World) => St 148 [(0, .int .i64 ((N : Int))), (1, .int .i64 ((m : Int))), (2, .int .i64 ((d : Int))), (10, .int .i64 0), (11, .int .i64 5), (12, .string (⟨(List.replicate i2 107).toArray⟩)), (13, .string (⟨(List.replicate i3 55).toArray⟩)), (15, .int .i64 ((i3 : Int)))] a ∧ Mem w nof [own 36 4 (.slice a14 X16.length c15) X16.length (tokv X16), pt b10 ((bys (List.replicate N (32 : Int)))) 5] wv ∧ (i3 ≤ d)) (fun i3 => d - i3) 0 ⟨hA.sub ((.cons rfl (.cons rfl (.cons rfl (.cons rfl (.cons rfl (.cons rfl (.cons rfl (.cons rfl .nil))))))))), hM, (Nat.zero_le _)⟩ ?_
        clear hA hM a
        rintro i3 a w6 ⟨hA, hM, hi3⟩ hNext2
        refine Ends.seq ?_
        refine Ends.seq ?_
        refine Ends.region ?_
        refine S.val hA (R.move rfl) rfl ?_; clear hA a; intro a hA
        refine S.val hA (R.move rfl) rfl ?_; clear hA a; intro a hA
        refine S.val hA (R.lss rfl rfl) rfl ?_; clear hA a; intro a hA
        refine S.done ?_
        replace hA : St 148 [(0, _), (1, _), (2, _), (10, _), (11, _), (12, _), (13, _), (15, _), (63, _)] a := hA.sub ((.cons rfl (.cons rfl (.cons rfl (.cons rfl (.cons rfl (.cons rfl (.cons rfl (.cons rfl (.cons rfl .nil))))))))))
        refine Ends.ite hA rfl (fun hc19 => ?_) (fun hc19 => ?_)
        ·
          refine Ends.skip ?_
          refine Ends.seq ?_
          refine Ends.block ?_
          refine Ends.region ?_
          refine S.val hA (R.move rfl) rfl ?_; clear hA a; intro a hA
          refine S.val hA (R.to (v := .string ⟨(List.replicate (i3 + 1) 55).toArray⟩) (R.addS rfl rfl (by rw [size_mk, List.length_replicate]; show i3 + 1 ≤ _; omega)) (congrArg Value.string (ba_snocR 55 i3))) rfl ?_; clear hA a; intro a hA
          refine S.val hA (R.assign rfl) rfl ?_; clear hA a; intro a hA
          refine S.done ?_
          replace hA : St 148 [(0, _), (1, _), (2, _), (10, _), (11, _), (12, _), (13, _), (15, _)] a := hA.sub ((.cons rfl (.cons rfl (.cons rfl (.cons rfl (.cons rfl (.cons rfl (.cons rfl (.cons rfl .nil)))))))))
          refine Ends.inBlock ?_
          refine Ends.region ?_
          refine S.val hA (R.move rfl) rfl ?_; clear hA a; intro a hA
          refine S.val hA (R.addI rfl rfl (r := ((i3 : Int)) + 1) rfl (by omega)) rfl ?_; clear hA a; intro a hA
          refine S.val hA (R.assign rfl) rfl ?_; clear hA a; intro a hA
          refine S.done ?_
          replace hA : St 148 [(0, _), (1, _), (2, _), (10, _), (11, _), (12, _), (13, _), (15, _)] a := hA.sub ((.cons rfl (.cons rfl (.cons rfl (.cons rfl (.cons rfl (.cons rfl (.cons rfl (.cons rfl .nil)))))))))
          exact hNext2 ((i3 + 1)) _ _ ((by show d - (i3 + 1) < d - i3; omega)) ⟨hA.sub ((.cons rfl (.cons rfl (.cons rfl (.cons rfl (.cons rfl (.cons rfl (.cons rfl (.cons rfl .nil))))))))), hM, (by omega)⟩
        ·
          refine Ends.exit rfl ?_
          replace hA : St 148 [(0, _), (1, _), (2, _), (10, _), (11, _), (12, _), (13, _)] a := hA.sub ((.cons rfl (.cons rfl (.cons rfl (.cons rfl (.cons rfl (.cons rfl (.cons rfl .nil))))))))
          refine Ends.seq ?_
          by_cases hs20 : 16 < m
          ·
            refine Ends.region ?_
            refine S.val hA (R.move rfl) rfl ?_; clear hA a; intro a hA
            refine S.val hA (R.to (v := .string (wrdS m)) (R.addS rfl rfl (by rw [show (⟨(List.replicate i2 107).toArray⟩ : ByteArray).size = i2 by rw [size_mk, List.length_replicate]]; show 1 + i2 ≤ _; omega)) (congrArg Value.string (by rw [show i2 = m by omega]; exact ba_wrd m))) rfl ?_; clear hA a; intro a hA
            obtain ⟨X23, hX24⟩ : ∃ X : List Tok, scan ((wrdS m)) = (X, 1, 5) := ⟨_, (scan_wrd (m := m) (by omega) (by omega)).1 hs20⟩
            refine S.call hA (R.callF Tryd.func13 rfl rfl rfl) rfl (scan_eq ((wrdS m)) (by rw [wrdS_size]; omega) X23 1 5 hX24 _ (htab.mem hM OffT.nof)) ?_; clear hA a
            rintro e w7 ⟨a21, c22, rfl, hn⟩
            replace hM : Mem _ _ [own 36 4 (.slice a21 X23.length c22) X23.length (tokv X23), own 36 4 (.slice a14 X16.length c15) X16.length (tokv X16), pt b10 ((bys (List.replicate N (32 : Int)))) 5] _ := hM.call hn; clear hn
            refine ⟨.tuple #[.slice a21 X23.length c22, .int .i64 1, .int .i64 5], rfl, fun a hA => ?_⟩
            refine S.val hA (R.move rfl) rfl ?_; clear hA a; intro a hA
            refine S.val hA (R.extract (v := .slice a21 X23.length c22) rfl rfl) rfl ?_; clear hA a; intro a hA
            refine S.val hA (R.extract (v := .int .i64 1) rfl rfl) rfl ?_; clear hA a; intro a hA
            refine S.val hA (R.extract (v := .int .i64 5) rfl rfl) rfl ?_; clear hA a; intro a hA
            refine S.val hA (R.assign rfl) rfl ?_; clear hA a; intro a hA
            refine S.val hA (R.assign rfl) rfl ?_; clear hA a; intro a hA
            refine S.val hA (R.assign rfl) rfl ?_; clear hA a; intro a hA
            refine S.done ?_
            replace hA : St 148 [(0, _), (1, _), (2, _), (10, _), (11, _), (13, _), (17, _), (18, _)] a := hA.sub ((.cons rfl (.cons rfl (.cons rfl (.cons rfl (.cons rfl (.cons rfl (.cons rfl (.cons rfl .nil)))))))))
            refine Ends.seq ?_
            by_cases hs25 : 18 < d
            ·
              refine Ends.region ?_
              refine S.val hA (R.move rfl) rfl ?_; clear hA a; intro a hA
              refine S.val hA (R.to (v := .string (numS d)) (R.addS rfl rfl (by rw [show (⟨(List.replicate i3 55).toArray⟩ : ByteArray).size = i3 by rw [size_mk, List.length_replicate]]; show 2 + i3 ≤ _; omega)) (congrArg Value.string (by rw [show i3 = d by omega]; exact ba_num d))) rfl ?_; clear hA a; intro a hA
              obtain ⟨X28, hX29⟩ : ∃ X : List Tok, scan ((numS d)) = (X, 2, 5) := ⟨_, (scan_num (m := d) (by omega) (by omega)).1 hs25⟩
              refine S.call hA (R.callF Tryd.func13 rfl rfl rfl) rfl (scan_eq ((numS d)) (by rw [numS_size]; omega) X28 2 5 hX29 _ (htab.mem hM OffT.nof)) ?_; clear hA a
              rintro e w8 ⟨a26, c27, rfl, hn⟩
              replace hM : Mem _ _ [own 36 4 (.slice a26 X28.length c27) X28.length (tokv X28), own 36 4 (.slice a21 X23.length c22) X23.length (tokv X23), own 36 4 (.slice a14 X16.length c15) X16.length (tokv X16), pt b10 ((bys (List.replicate N (32 : Int)))) 5] _ := hM.call hn; clear hn
              refine ⟨.tuple #[.slice a26 X28.length c27, .int .i64 2, .int .i64 5], rfl, fun a hA => ?_⟩
              refine S.val hA (R.move rfl) rfl ?_; clear hA a; intro a hA
              refine S.val hA (R.extract (v := .slice a26 X28.length c27) rfl rfl) rfl ?_; clear hA a; intro a hA
              refine S.val hA (R.extract (v := .int .i64 2) rfl rfl) rfl ?_; clear hA a; intro a hA
              refine S.val hA (R.extract (v := .int .i64 5) rfl rfl) rfl ?_; clear hA a; intro a hA
              refine S.val hA (R.assign rfl) rfl ?_; clear hA a; intro a hA
              refine S.val hA (R.assign rfl) rfl ?_; clear hA a; intro a hA
              refine S.val hA (R.assign rfl) rfl ?_; clear hA a; intro a hA
              refine S.done ?_
              replace hA : St 148 [(0, _), (1, _), (2, _), (10, _), (11, _), (17, _), (18, _), (20, _), (21, _)] a := hA.sub ((.cons rfl (.cons rfl (.cons rfl (.cons rfl (.cons rfl (.cons rfl (.cons rfl (.cons rfl (.cons rfl .nil))))))))))
              refine Ends.seq ?_
              refine Ends.region ?_
              refine S.call hA (R.callF Tryd.func12 rfl rfl rfl) rfl (lexes_any _ (htab.mem hM OffT.nof)) ?_; clear hA a
              rintro e w9 ⟨rfl, hb⟩
              replace hM := hM.callB hb; clear hb
              refine ⟨.bool true, rfl, fun a hA => ?_⟩
              refine S.val hA (R.move rfl) rfl ?_; clear hA a; intro a hA
              refine S.valg (dj := 83) hA (by kernel_rfl) rfl (R.move rfl) rfl ?_; clear hA a; intro a hA
              refine S.valg (dj := 83) hA (by kernel_rfl) rfl (R.tt (R.eql rfl rfl) (by first | decide | simp | omega)) rfl ?_; clear hA a; intro a hA
              refine S.val hA (R.pickT rfl rfl) rfl ?_; clear hA a; intro a hA
              refine S.val hA (R.move rfl) rfl ?_; clear hA a; intro a hA
              refine S.valg (dj := 87) hA (by kernel_rfl) rfl (R.move rfl) rfl ?_; clear hA a; intro a hA
              refine S.valg (dj := 87) hA (by kernel_rfl) rfl (R.ff (R.eql rfl rfl) (by first | decide | simp | omega)) rfl ?_; clear hA a; intro a hA
              refine S.valg (dj := 87) hA (by kernel_rfl) rfl (R.move rfl) rfl ?_; clear hA a; intro a hA
              refine S.valg (dj := 87) hA (by kernel_rfl) rfl (R.ff (R.leq rfl rfl) (by omega)) rfl ?_; clear hA a; intro a hA
              refine S.valg (dj := 87) hA (by kernel_rfl) rfl (R.to (v := .bool true) (R.eqlB Tryd.underlying4 rfl rfl) (congrArg Value.bool (by simp))) rfl ?_; clear hA a; intro a hA
              refine S.val hA (R.pickT rfl rfl) rfl ?_; clear hA a; intro a hA
              refine S.val hA (R.move rfl) rfl ?_; clear hA a; intro a hA
              refine S.valg (dj := 94) hA (by kernel_rfl) rfl (R.move rfl) rfl ?_; clear hA a; intro a hA
              refine S.valg (dj := 94) hA (by kernel_rfl) rfl (R.ff (R.eql rfl rfl) (by first | decide | simp | omega)) rfl ?_; clear hA a; intro a hA
              refine S.valg (dj := 94) hA (by kernel_rfl) rfl (R.move rfl) rfl ?_; clear hA a; intro a hA
              refine S.valg (dj := 97) hA (by kernel_rfl) rfl (R.move rfl) rfl ?_; clear hA a; intro a hA
              refine S.valg (dj := 97) hA (by kernel_rfl) rfl (R.tt (R.eql rfl rfl) (by first | decide | simp | omega)) rfl ?_; clear hA a; intro a hA
              refine S.valg (dj := 94) hA (by kernel_rfl) rfl (R.pickF rfl rfl) rfl ?_; clear hA a; intro a hA
              refine S.val hA (R.pickT rfl rfl) rfl ?_; clear hA a; intro a hA
              refine S.val hA (R.move rfl) rfl ?_; clear hA a; intro a hA
              refine S.valg (dj := 102) hA (by kernel_rfl) rfl (R.move rfl) rfl ?_; clear hA a; intro a hA
              refine S.valg (dj := 102) hA (by kernel_rfl) rfl (R.ff (R.eql rfl rfl) (by first | decide | simp | omega)) rfl ?_; clear hA a; intro a hA
              refine S.valg (dj := 102) hA (by kernel_rfl) rfl (R.move rfl) rfl ?_; clear hA a; intro a hA
              refine S.valg (dj := 102) hA (by kernel_rfl) rfl (R.ff (R.leq rfl rfl) (by omega)) rfl ?_; clear hA a; intro a hA
              refine S.valg (dj := 102) hA (by kernel_rfl) rfl (R.to (v := .bool true) (R.eqlB Tryd.underlying4 rfl rfl) (congrArg Value.bool (by simp))) rfl ?_; clear hA a; intro a hA
              refine S.val hA (R.pickT rfl rfl) rfl ?_; clear hA a; intro a hA
              refine S.val hA (R.move rfl) rfl ?_; clear hA a; intro a hA
              refine S.valg (dj := 109) hA (by kernel_rfl) rfl (R.move rfl) rfl ?_; clear hA a; intro a hA
              refine S.valg (dj := 109) hA (by kernel_rfl) rfl (R.ff (R.eql rfl rfl) (by first | decide | simp | omega)) rfl ?_; clear hA a; intro a hA
              refine S.valg (dj := 109) hA (by kernel_rfl) rfl (R.move rfl) rfl ?_; clear hA a; intro a hA
              refine S.no (dj := 112) hA (by kernel_rfl) rfl rfl rfl ?_; clear hA a; intro a hA
              refine S.no (dj := 112) hA (by kernel_rfl) rfl rfl rfl ?_; clear hA a; intro a hA
              refine S.valg (dj := 109) hA (by kernel_rfl) rfl (R.pickF rfl rfl) rfl ?_; clear hA a; intro a hA
              refine S.valg (dj := 109) hA (by kernel_rfl) rfl (R.move rfl) rfl ?_; clear hA a; intro a hA
              refine S.valg (dj := 116) hA (by kernel_rfl) rfl (R.move rfl) rfl ?_; clear hA a; intro a hA
              refine S.valg (dj := 116) hA (by kernel_rfl) rfl (R.tt (R.eql rfl rfl) (by first | decide | simp | omega)) rfl ?_; clear hA a; intro a hA
              refine S.valg (dj := 116) hA (by kernel_rfl) rfl (R.move rfl) rfl ?_; clear hA a; intro a hA
              refine S.valg (dj := 119) hA (by kernel_rfl) rfl (R.move rfl) rfl ?_; clear hA a; intro a hA
              refine S.valg (dj := 119) hA (by kernel_rfl) rfl (R.tt (R.eql rfl rfl) (by first | decide | simp | omega)) rfl ?_; clear hA a; intro a hA
              refine S.valg (dj := 116) hA (by kernel_rfl) rfl (R.pickT rfl rfl) rfl ?_; clear hA a; intro a hA
              refine S.valg (dj := 109) hA (by kernel_rfl) rfl (R.pickF rfl rfl) rfl ?_; clear hA a; intro a hA
              refine S.val hA (R.pickT rfl rfl) rfl ?_; clear hA a; intro a hA
              refine S.val hA (R.move rfl) rfl ?_; clear hA a; intro a hA
              refine S.valg (dj := 125) hA (by kernel_rfl) rfl (R.move rfl) rfl ?_; clear hA a; intro a hA
              refine S.valg (dj := 125) hA (by kernel_rfl) rfl (R.ff (R.eql rfl rfl) (by first | decide | simp | omega)) rfl ?_; clear hA a; intro a hA
              refine S.valg (dj := 125) hA (by kernel_rfl) rfl (R.move rfl) rfl ?_; clear hA a; intro a hA
              refine S.valg (dj := 125) hA (by kernel_rfl) rfl (R.ff (R.leq rfl rfl) (by omega)) rfl ?_; clear hA a; intro a hA
              refine S.valg (dj := 125) hA (by kernel_rfl) rfl (R.to (v := .bool true) (R.eqlB Tryd.underlying4 rfl rfl) (congrArg Value.bool (by simp))) rfl ?_; clear hA a; intro a hA
              refine S.val hA (R.pickT rfl rfl) rfl ?_; clear hA a; intro a hA
              refine S.val hA (R.move rfl) rfl ?_; clear hA a; intro a hA
              refine S.valg (dj := 132) hA (by kernel_rfl) rfl (R.move rfl) rfl ?_; clear hA a; intro a hA
              refine S.valg (dj := 132) hA (by kernel_rfl) rfl (R.ff (R.eql rfl rfl) (by first | decide | simp | omega)) rfl ?_; clear hA a; intro a hA
              refine S.valg (dj := 132) hA (by kernel_rfl) rfl (R.move rfl) rfl ?_; clear hA a; intro a hA
              refine S.no (dj := 135) hA (by kernel_rfl) rfl rfl rfl ?_; clear hA a; intro a hA
              refine S.no (dj := 135) hA (by kernel_rfl) rfl rfl rfl ?_; clear hA a; intro a hA
              refine S.valg (dj := 132) hA (by kernel_rfl) rfl (R.pickF rfl rfl) rfl ?_; clear hA a; intro a hA
              refine S.valg (dj := 132) hA (by kernel_rfl) rfl (R.move rfl) rfl ?_; clear hA a; intro a hA
              refine S.valg (dj := 139) hA (by kernel_rfl) rfl (R.move rfl) rfl ?_; clear hA a; intro a hA
              refine S.valg (dj := 139) hA (by kernel_rfl) rfl (R.tt (R.eql rfl rfl) (by first | decide | simp | omega)) rfl ?_; clear hA a; intro a hA
              refine S.valg (dj := 139) hA (by kernel_rfl) rfl (R.move rfl) rfl ?_; clear hA a; intro a hA
              refine S.valg (dj := 142) hA (by kernel_rfl) rfl (R.move rfl) rfl ?_; clear hA a; intro a hA
              refine S.valg (dj := 142) hA (by kernel_rfl) rfl (R.tt (R.eql rfl rfl) (by first | decide | simp | omega)) rfl ?_; clear hA a; intro a hA
              refine S.valg (dj := 139) hA (by kernel_rfl) rfl (R.pickT rfl rfl) rfl ?_; clear hA a; intro a hA
              refine S.valg (dj := 132) hA (by kernel_rfl) rfl (R.pickF rfl rfl) rfl ?_; clear hA a; intro a hA
              refine S.val hA (R.pickT rfl rfl) rfl ?_; clear hA a; intro a hA
              refine S.val hA (R.assign rfl) rfl ?_; clear hA a; intro a hA
              refine S.done ?_
              replace hA : St 148 [(6, _)] a := hA.sub ((.cons rfl .nil))
              refine Ends.ret1 Tryd.func6 Tryd.results6 hA rfl ?_
              exact ⟨rfl, hM.nilL.below⟩
            ·
              refine Ends.region ?_
              refine S.val hA (R.move rfl) rfl ?_; clear hA a; intro a hA
              refine S.val hA (R.to (v := .string (numS d)) (R.addS rfl rfl (by rw [show (⟨(List.replicate i3 55).toArray⟩ : ByteArray).size = i3 by rw [size_mk, List.length_replicate]]; show 2 + i3 ≤ _; omega)) (congrArg Value.string (by rw [show i3 = d by omega]; exact ba_num d))) rfl ?_; clear hA a; intro a hA
              obtain ⟨X32, hX33⟩ : ∃ X : List Tok, scan ((numS d)) = (X, 0, 0) := (scan_num (m := d) (by omega) (by omega)).2 (by omega)
              refine S.call hA (R.callF Tryd.func13 rfl rfl rfl) rfl (scan_eq ((numS d)) (by rw [numS_size]; omega) X32 0 0 hX33 _ (htab.mem hM OffT.nof)) ?_; clear hA a
              rintro e w10 ⟨a30, c31, rfl, hn⟩
              replace hM : Mem _ _ [own 36 4 (.slice a30 X32.length c31) X32.length (tokv X32), own 36 4 (.slice a21 X23.length c22) X23.length (tokv X23), own 36 4 (.slice a14 X16.length c15) X16.length (tokv X16), pt b10 ((bys (List.replicate N (32 : Int)))) 5] _ := hM.call hn; clear hn
              refine ⟨.tuple #[.slice a30 X32.length c31, .int .i64 0, .int .i64 0], rfl, fun a hA => ?_⟩
              refine S.val hA (R.move rfl) rfl ?_; clear hA a; intro a hA
              refine S.val hA (R.extract (v := .slice a30 X32.length c31) rfl rfl) rfl ?_; clear hA a; intro a hA
              refine S.val hA (R.extract (v := .int .i64 0) rfl rfl) rfl ?_; clear hA a; intro a hA
              refine S.val hA (R.extract (v := .int .i64 0) rfl rfl) rfl ?_; clear hA a; intro a hA
              refine S.val hA (R.assign rfl) rfl ?_; clear hA a; intro a hA
              refine S.val hA (R.assign rfl) rfl ?_; clear hA a; intro a hA
              refine S.val hA (R.assign rfl) rfl ?_; clear hA a; intro a hA
              refine S.done ?_
              replace hA : St 148 [(0, _), (1, _), (2, _), (10, _), (11, _), (17, _), (18, _), (20, _), (21, _)] a := hA.sub ((.cons rfl (.cons rfl (.cons rfl (.cons rfl (.cons rfl (.cons rfl (.cons rfl (.cons rfl (.cons rfl .nil))))))))))
              refine Ends.seq ?_
              refine Ends.region ?_
              refine S.call hA (R.callF Tryd.func12 rfl rfl rfl) rfl (lexes_any _ (htab.mem hM OffT.nof)) ?_; clear hA a
              rintro e w11 ⟨rfl, hb⟩
              replace hM := hM.callB hb; clear hb
              refine ⟨.bool true, rfl, fun a hA => ?_⟩
              refine S.val hA (R.move rfl) rfl ?_; clear hA a; intro a hA
              refine S.valg (dj := 83) hA (by kernel_rfl) rfl (R.move rfl) rfl ?_; clear hA a; intro a hA
              refine S.valg (dj := 83) hA (by kernel_rfl) rfl (R.tt (R.eql rfl rfl) (by first | decide | simp | omega)) rfl ?_; clear hA a; intro a hA
              refine S.val hA (R.pickT rfl rfl) rfl ?_; clear hA a; intro a hA
              refine S.val hA (R.move rfl) rfl ?_; clear hA a; intro a hA
              refine S.valg (dj := 87) hA (by kernel_rfl) rfl (R.move rfl) rfl ?_; clear hA a; intro a hA
              refine S.valg (dj := 87) hA (by kernel_rfl) rfl (R.ff (R.eql rfl rfl) (by first | decide | simp | omega)) rfl ?_; clear hA a; intro a hA
              refine S.valg (dj := 87) hA (by kernel_rfl) rfl (R.move rfl) rfl ?_; clear hA a; intro a hA
              refine S.valg (dj := 87) hA (by kernel_rfl) rfl (R.ff (R.leq rfl rfl) (by omega)) rfl ?_; clear hA a; intro a hA
              refine S.valg (dj := 87) hA (by kernel_rfl) rfl (R.to (v := .bool true) (R.eqlB Tryd.underlying4 rfl rfl) (congrArg Value.bool (by simp))) rfl ?_; clear hA a; intro a hA
              refine S.val hA (R.pickT rfl rfl) rfl ?_; clear hA a; intro a hA
              refine S.val hA (R.move rfl) rfl ?_; clear hA a; intro a hA
              refine S.valg (dj := 94) hA (by kernel_rfl) rfl (R.move rfl) rfl ?_; clear hA a; intro a hA
              refine S.valg (dj := 94) hA (by kernel_rfl) rfl (R.ff (R.eql rfl rfl) (by first | decide | simp | omega)) rfl ?_; clear hA a; intro a hA
              refine S.valg (dj := 94) hA (by kernel_rfl) rfl (R.move rfl) rfl ?_; clear hA a; intro a hA
              refine S.valg (dj := 97) hA (by kernel_rfl) rfl (R.move rfl) rfl ?_; clear hA a; intro a hA
              refine S.valg (dj := 97) hA (by kernel_rfl) rfl (R.tt (R.eql rfl rfl) (by first | decide | simp | omega)) rfl ?_; clear hA a; intro a hA
              refine S.valg (dj := 94) hA (by kernel_rfl) rfl (R.pickF rfl rfl) rfl ?_; clear hA a; intro a hA
              refine S.val hA (R.pickT rfl rfl) rfl ?_; clear hA a; intro a hA
              refine S.val hA (R.move rfl) rfl ?_; clear hA a; intro a hA
              refine S.valg (dj := 102) hA (by kernel_rfl) rfl (R.move rfl) rfl ?_; clear hA a; intro a hA
              refine S.valg (dj := 102) hA (by kernel_rfl) rfl (R.ff (R.eql rfl rfl) (by first | decide | simp | omega)) rfl ?_; clear hA a; intro a hA
              refine S.valg (dj := 102) hA (by kernel_rfl) rfl (R.move rfl) rfl ?_; clear hA a; intro a hA
              refine S.valg (dj := 102) hA (by kernel_rfl) rfl (R.ff (R.leq rfl rfl) (by omega)) rfl ?_; clear hA a; intro a hA
              refine S.valg (dj := 102) hA (by kernel_rfl) rfl (R.to (v := .bool true) (R.eqlB Tryd.underlying4 rfl rfl) (congrArg Value.bool (by simp))) rfl ?_; clear hA a; intro a hA
              refine S.val hA (R.pickT rfl rfl) rfl ?_; clear hA a; intro a hA
              refine S.val hA (R.move rfl) rfl ?_; clear hA a; intro a hA
              refine S.valg (dj := 109) hA (by kernel_rfl) rfl (R.move rfl) rfl ?_; clear hA a; intro a hA
              refine S.valg (dj := 109) hA (by kernel_rfl) rfl (R.ff (R.eql rfl rfl) (by first | decide | simp | omega)) rfl ?_; clear hA a; intro a hA
              refine S.valg (dj := 109) hA (by kernel_rfl) rfl (R.move rfl) rfl ?_; clear hA a; intro a hA
              refine S.no (dj := 112) hA (by kernel_rfl) rfl rfl rfl ?_; clear hA a; intro a hA
              refine S.no (dj := 112) hA (by kernel_rfl) rfl rfl rfl ?_; clear hA a; intro a hA
              refine S.valg (dj := 109) hA (by kernel_rfl) rfl (R.pickF rfl rfl) rfl ?_; clear hA a; intro a hA
              refine S.valg (dj := 109) hA (by kernel_rfl) rfl (R.move rfl) rfl ?_; clear hA a; intro a hA
              refine S.valg (dj := 116) hA (by kernel_rfl) rfl (R.move rfl) rfl ?_; clear hA a; intro a hA
              refine S.valg (dj := 116) hA (by kernel_rfl) rfl (R.tt (R.eql rfl rfl) (by first | decide | simp | omega)) rfl ?_; clear hA a; intro a hA
              refine S.valg (dj := 116) hA (by kernel_rfl) rfl (R.move rfl) rfl ?_; clear hA a; intro a hA
              refine S.valg (dj := 119) hA (by kernel_rfl) rfl (R.move rfl) rfl ?_; clear hA a; intro a hA
              refine S.valg (dj := 119) hA (by kernel_rfl) rfl (R.tt (R.eql rfl rfl) (by first | decide | simp | omega)) rfl ?_; clear hA a; intro a hA
              refine S.valg (dj := 116) hA (by kernel_rfl) rfl (R.pickT rfl rfl) rfl ?_; clear hA a; intro a hA
              refine S.valg (dj := 109) hA (by kernel_rfl) rfl (R.pickF rfl rfl) rfl ?_; clear hA a; intro a hA
              refine S.val hA (R.pickT rfl rfl) rfl ?_; clear hA a; intro a hA
              refine S.val hA (R.move rfl) rfl ?_; clear hA a; intro a hA
              refine S.valg (dj := 125) hA (by kernel_rfl) rfl (R.move rfl) rfl ?_; clear hA a; intro a hA
              refine S.valg (dj := 125) hA (by kernel_rfl) rfl (R.tt (R.eql rfl rfl) (by first | decide | simp | omega)) rfl ?_; clear hA a; intro a hA
              refine S.valg (dj := 125) hA (by kernel_rfl) rfl (R.move rfl) rfl ?_; clear hA a; intro a hA
              refine S.valg (dj := 125) hA (by kernel_rfl) rfl (R.tt (R.leq rfl rfl) (by omega)) rfl ?_; clear hA a; intro a hA
              refine S.valg (dj := 125) hA (by kernel_rfl) rfl (R.to (v := .bool true) (R.eqlB Tryd.underlying4 rfl rfl) (congrArg Value.bool (by simp))) rfl ?_; clear hA a; intro a hA
              refine S.val hA (R.pickT rfl rfl) rfl ?_; clear hA a; intro a hA
              refine S.val hA (R.move rfl) rfl ?_; clear hA a; intro a hA
              refine S.valg (dj := 132) hA (by kernel_rfl) rfl (R.move rfl) rfl ?_; clear hA a; intro a hA
              refine S.valg (dj := 132) hA (by kernel_rfl) rfl (R.tt (R.eql rfl rfl) (by first | decide | simp | omega)) rfl ?_; clear hA a; intro a hA
              refine S.valg (dj := 132) hA (by kernel_rfl) rfl (R.move rfl) rfl ?_; clear hA a; intro a hA
              refine S.valg (dj := 135) hA (by kernel_rfl) rfl (R.move rfl) rfl ?_; clear hA a; intro a hA
              refine S.valg (dj := 135) hA (by kernel_rfl) rfl (R.tt (R.eql rfl rfl) (by first | decide | simp | omega)) rfl ?_; clear hA a; intro a hA
              refine S.valg (dj := 132) hA (by kernel_rfl) rfl (R.pickT rfl rfl) rfl ?_; clear hA a; intro a hA
              refine S.valg (dj := 132) hA (by kernel_rfl) rfl (R.move rfl) rfl ?_; clear hA a; intro a hA
              refine S.no (dj := 139) hA (by kernel_rfl) rfl rfl rfl ?_; clear hA a; intro a hA
              refine S.no (dj := 139) hA (by kernel_rfl) rfl rfl rfl ?_; clear hA a; intro a hA
              refine S.no (dj := 139) hA (by kernel_rfl) rfl rfl rfl ?_; clear hA a; intro a hA
              refine S.noU (dj := 142) hA (by kernel_rfl) rfl rfl ?_; clear hA a; intro a hA
              refine S.noU (dj := 142) hA (by kernel_rfl) rfl rfl ?_; clear hA a; intro a hA
              refine S.no (dj := 139) hA (by kernel_rfl) rfl rfl rfl ?_; clear hA a; intro a hA
              refine S.valg (dj := 132) hA (by kernel_rfl) rfl (R.pickT rfl rfl) rfl ?_; clear hA a; intro a hA
              refine S.val hA (R.pickT rfl rfl) rfl ?_; clear hA a; intro a hA
              refine S.val hA (R.assign rfl) rfl ?_; clear hA a; intro a hA
              refine S.done ?_
              replace hA : St 148 [(6, _)] a := hA.sub ((.cons rfl .nil))
              refine Ends.ret1 Tryd.func6 Tryd.results6 hA rfl ?_
              exact ⟨rfl, hM.nilL.below⟩
          ·
            refine Ends.region ?_
            refine S.val hA (R.move rfl) rfl ?_; clear hA a; intro a hA
            refine S.val hA (R.to (v := .string (wrdS m)) (R.addS rfl rfl (by rw [show (⟨(List.replicate i2 107).toArray⟩ : ByteArray).size = i2 by rw [size_mk, List.length_replicate]]; show 1 + i2 ≤ _; omega)) (congrArg Value.string (by rw [show i2 = m by omega]; exact ba_wrd m))) rfl ?_; clear hA a; intro a hA
            obtain ⟨X36, hX37⟩ : ∃ X : List Tok, scan ((wrdS m)) = (X, 0, 0) := (scan_wrd (m := m) (by omega) (by omega)).2 (by omega)
            refine S.call hA (R.callF Tryd.func13 rfl rfl rfl) rfl (scan_eq ((wrdS m)) (by rw [wrdS_size]; omega) X36 0 0 hX37 _ (htab.mem hM OffT.nof)) ?_; clear hA a
            rintro e w12 ⟨a34, c35, rfl, hn⟩
            replace hM : Mem _ _ [own 36 4 (.slice a34 X36.length c35) X36.length (tokv X36), own 36 4 (.slice a14 X16.length c15) X16.length (tokv X16), pt b10 ((bys (List.replicate N (32 : Int)))) 5] _ := hM.call hn; clear hn
            refine ⟨.tuple #[.slice a34 X36.length c35, .int .i64 0, .int .i64 0], rfl, fun a hA => ?_⟩
            refine S.val hA (R.move rfl) rfl ?_; clear hA a; intro a hA
            refine S.val hA (R.extract (v := .slice a34 X36.length c35) rfl rfl) rfl ?_; clear hA a; intro a hA
            refine S.val hA (R.extract (v := .int .i64 0) rfl rfl) rfl ?_; clear hA a; intro a hA
            refine S.val hA (R.extract (v := .int .i64 0) rfl rfl) rfl ?_; clear hA a; intro a hA
            refine S.val hA (R.assign rfl) rfl ?_; clear hA a; intro a hA
            refine S.val hA (R.assign rfl) rfl ?_; clear hA a; intro a hA
            refine S.val hA (R.assign rfl) rfl ?_; clear hA a; intro a hA
            refine S.done ?_
            replace hA : St 148 [(0, _), (1, _), (2, _), (10, _), (11, _), (13, _), (17, _), (18, _)] a := hA.sub ((.cons rfl (.cons rfl (.cons rfl (.cons rfl (.cons rfl (.cons rfl (.cons rfl (.cons rfl .nil)))))))))
            refine Ends.seq ?_
            by_cases hs38 : 18 < d
            ·
              refine Ends.region ?_
              refine S.val hA (R.move rfl) rfl ?_; clear hA a; intro a hA
              refine S.val hA (R.to (v := .string (numS d)) (R.addS rfl rfl (by rw [show (⟨(List.replicate i3 55).toArray⟩ : ByteArray).size = i3 by rw [size_mk, List.length_replicate]]; show 2 + i3 ≤ _; omega)) (congrArg Value.string (by rw [show i3 = d by omega]; exact ba_num d))) rfl ?_; clear hA a; intro a hA
              obtain ⟨X41, hX42⟩ : ∃ X : List Tok, scan ((numS d)) = (X, 2, 5) := ⟨_, (scan_num (m := d) (by omega) (by omega)).1 hs38⟩
              refine S.call hA (R.callF Tryd.func13 rfl rfl rfl) rfl (scan_eq ((numS d)) (by rw [numS_size]; omega) X41 2 5 hX42 _ (htab.mem hM OffT.nof)) ?_; clear hA a
              rintro e w13 ⟨a39, c40, rfl, hn⟩
              replace hM : Mem _ _ [own 36 4 (.slice a39 X41.length c40) X41.length (tokv X41), own 36 4 (.slice a34 X36.length c35) X36.length (tokv X36), own 36 4 (.slice a14 X16.length c15) X16.length (tokv X16), pt b10 ((bys (List.replicate N (32 : Int)))) 5] _ := hM.call hn; clear hn
              refine ⟨.tuple #[.slice a39 X41.length c40, .int .i64 2, .int .i64 5], rfl, fun a hA => ?_⟩
              refine S.val hA (R.move rfl) rfl ?_; clear hA a; intro a hA
              refine S.val hA (R.extract (v := .slice a39 X41.length c40) rfl rfl) rfl ?_; clear hA a; intro a hA
              refine S.val hA (R.extract (v := .int .i64 2) rfl rfl) rfl ?_; clear hA a; intro a hA
              refine S.val hA (R.extract (v := .int .i64 5) rfl rfl) rfl ?_; clear hA a; intro a hA
              refine S.val hA (R.assign rfl) rfl ?_; clear hA a; intro a hA
              refine S.val hA (R.assign rfl) rfl ?_; clear hA a; intro a hA
              refine S.val hA (R.assign rfl) rfl ?_; clear hA a; intro a hA
              refine S.done ?_
              replace hA : St 148 [(0, _), (1, _), (2, _), (10, _), (11, _), (17, _), (18, _), (20, _), (21, _)] a := hA.sub ((.cons rfl (.cons rfl (.cons rfl (.cons rfl (.cons rfl (.cons rfl (.cons rfl (.cons rfl (.cons rfl .nil))))))))))
              refine Ends.seq ?_
              refine Ends.region ?_
              refine S.call hA (R.callF Tryd.func12 rfl rfl rfl) rfl (lexes_any _ (htab.mem hM OffT.nof)) ?_; clear hA a
              rintro e w14 ⟨rfl, hb⟩
              replace hM := hM.callB hb; clear hb
              refine ⟨.bool true, rfl, fun a hA => ?_⟩
              refine S.val hA (R.move rfl) rfl ?_; clear hA a; intro a hA
              refine S.valg (dj := 83) hA (by kernel_rfl) rfl (R.move rfl) rfl ?_; clear hA a; intro a hA
              refine S.valg (dj := 83) hA (by kernel_rfl) rfl (R.tt (R.eql rfl rfl) (by first | decide | simp | omega)) rfl ?_; clear hA a; intro a hA
              refine S.val hA (R.pickT rfl rfl) rfl ?_; clear hA a; intro a hA
              refine S.val hA (R.move rfl) rfl ?_; clear hA a; intro a hA
              refine S.valg (dj := 87) hA (by kernel_rfl) rfl (R.move rfl) rfl ?_; clear hA a; intro a hA
              refine S.valg (dj := 87) hA (by kernel_rfl) rfl (R.ff (R.eql rfl rfl) (by first | decide | simp | omega)) rfl ?_; clear hA a; intro a hA
              refine S.valg (dj := 87) hA (by kernel_rfl) rfl (R.move rfl) rfl ?_; clear hA a; intro a hA
              refine S.valg (dj := 87) hA (by kernel_rfl) rfl (R.ff (R.leq rfl rfl) (by omega)) rfl ?_; clear hA a; intro a hA
              refine S.valg (dj := 87) hA (by kernel_rfl) rfl (R.to (v := .bool true) (R.eqlB Tryd.underlying4 rfl rfl) (congrArg Value.bool (by simp))) rfl ?_; clear hA a; intro a hA
              refine S.val hA (R.pickT rfl rfl) rfl ?_; clear hA a; intro a hA
              refine S.val hA (R.move rfl) rfl ?_; clear hA a; intro a hA
              refine S.valg (dj := 94) hA (by kernel_rfl) rfl (R.move rfl) rfl ?_; clear hA a; intro a hA
              refine S.valg (dj := 94) hA (by kernel_rfl) rfl (R.ff (R.eql rfl rfl) (by first | decide | simp | omega)) rfl ?_; clear hA a; intro a hA
              refine S.valg (dj := 94) hA (by kernel_rfl) rfl (R.move rfl) rfl ?_; clear hA a; intro a hA
              refine S.valg (dj := 97) hA (by kernel_rfl) rfl (R.move rfl) rfl ?_; clear hA a; intro a hA
              refine S.valg (dj := 97) hA (by kernel_rfl) rfl (R.tt (R.eql rfl rfl) (by first | decide | simp | omega)) rfl ?_; clear hA a; intro a hA
              refine S.valg (dj := 94) hA (by kernel_rfl) rfl (R.pickF rfl rfl) rfl ?_; clear hA a; intro a hA
              refine S.val hA (R.pickT rfl rfl) rfl ?_; clear hA a; intro a hA
              refine S.val hA (R.move rfl) rfl ?_; clear hA a; intro a hA
              refine S.valg (dj := 102) hA (by kernel_rfl) rfl (R.move rfl) rfl ?_; clear hA a; intro a hA
              refine S.valg (dj := 102) hA (by kernel_rfl) rfl (R.tt (R.eql rfl rfl) (by first | decide | simp | omega)) rfl ?_; clear hA a; intro a hA
              refine S.valg (dj := 102) hA (by kernel_rfl) rfl (R.move rfl) rfl ?_; clear hA a; intro a hA
              refine S.valg (dj := 102) hA (by kernel_rfl) rfl (R.tt (R.leq rfl rfl) (by omega)) rfl ?_; clear hA a; intro a hA
              refine S.valg (dj := 102) hA (by kernel_rfl) rfl (R.to (v := .bool true) (R.eqlB Tryd.underlying4 rfl rfl) (congrArg Value.bool (by simp))) rfl ?_; clear hA a; intro a hA
              refine S.val hA (R.pickT rfl rfl) rfl ?_; clear hA a; intro a hA
              refine S.val hA (R.move rfl) rfl ?_; clear hA a; intro a hA
              refine S.valg (dj := 109) hA (by kernel_rfl) rfl (R.move rfl) rfl ?_; clear hA a; intro a hA
              refine S.valg (dj := 109) hA (by kernel_rfl) rfl (R.tt (R.eql rfl rfl) (by first | decide | simp | omega)) rfl ?_; clear hA a; intro a hA
              refine S.valg (dj := 109) hA (by kernel_rfl) rfl (R.move rfl) rfl ?_; clear hA a; intro a hA
              refine S.valg (dj := 112) hA (by kernel_rfl) rfl (R.move rfl) rfl ?_; clear hA a; intro a hA
              refine S.valg (dj := 112) hA (by kernel_rfl) rfl (R.tt (R.eql rfl rfl) (by first | decide | simp | omega)) rfl ?_; clear hA a; intro a hA
              refine S.valg (dj := 109) hA (by kernel_rfl) rfl (R.pickT rfl rfl) rfl ?_; clear hA a; intro a hA
              refine S.valg (dj := 109) hA (by kernel_rfl) rfl (R.move rfl) rfl ?_; clear hA a; intro a hA
              refine S.no (dj := 116) hA (by kernel_rfl) rfl rfl rfl ?_; clear hA a; intro a hA
              refine S.no (dj := 116) hA (by kernel_rfl) rfl rfl rfl ?_; clear hA a; intro a hA
              refine S.no (dj := 116) hA (by kernel_rfl) rfl rfl rfl ?_; clear hA a; intro a hA
              refine S.noU (dj := 119) hA (by kernel_rfl) rfl rfl ?_; clear hA a; intro a hA
              refine S.noU (dj := 119) hA (by kernel_rfl) rfl rfl ?_; clear hA a; intro a hA
              refine S.no (dj := 116) hA (by kernel_rfl) rfl rfl rfl ?_; clear hA a; intro a hA
              refine S.valg (dj := 109) hA (by kernel_rfl) rfl (R.pickT rfl rfl) rfl ?_; clear hA a; intro a hA
              refine S.val hA (R.pickT rfl rfl) rfl ?_; clear hA a; intro a hA
              refine S.val hA (R.move rfl) rfl ?_; clear hA a; intro a hA
              refine S.valg (dj := 125) hA (by kernel_rfl) rfl (R.move rfl) rfl ?_; clear hA a; intro a hA
              refine S.valg (dj := 125) hA (by kernel_rfl) rfl (R.ff (R.eql rfl rfl) (by first | decide | simp | omega)) rfl ?_; clear hA a; intro a hA
              refine S.valg (dj := 125) hA (by kernel_rfl) rfl (R.move rfl) rfl ?_; clear hA a; intro a hA
              refine S.valg (dj := 125) hA (by kernel_rfl) rfl (R.ff (R.leq rfl rfl) (by omega)) rfl ?_; clear hA a; intro a hA
              refine S.valg (dj := 125) hA (by kernel_rfl) rfl (R.to (v := .bool true) (R.eqlB Tryd.underlying4 rfl rfl) (congrArg Value.bool (by simp))) rfl ?_; clear hA a; intro a hA
              refine S.val hA (R.pickT rfl rfl) rfl ?_; clear hA a; intro a hA
              refine S.val hA (R.move rfl) rfl ?_; clear hA a; intro a hA
              refine S.valg (dj := 132) hA (by kernel_rfl) rfl (R.move rfl) rfl ?_; clear hA a; intro a hA
              refine S.valg (dj := 132) hA (by kernel_rfl) rfl (R.ff (R.eql rfl rfl) (by first | decide | simp | omega)) rfl ?_; clear hA a; intro a hA
              refine S.valg (dj := 132) hA (by kernel_rfl) rfl (R.move rfl) rfl ?_; clear hA a; intro a hA
              refine S.no (dj := 135) hA (by kernel_rfl) rfl rfl rfl ?_; clear hA a; intro a hA
              refine S.no (dj := 135) hA (by kernel_rfl) rfl rfl rfl ?_; clear hA a; intro a hA
              refine S.valg (dj := 132) hA (by kernel_rfl) rfl (R.pickF rfl rfl) rfl ?_; clear hA a; intro a hA
              refine S.valg (dj := 132) hA (by kernel_rfl) rfl (R.move rfl) rfl ?_; clear hA a; intro a hA
              refine S.valg (dj := 139) hA (by kernel_rfl) rfl (R.move rfl) rfl ?_; clear hA a; intro a hA
              refine S.valg (dj := 139) hA (by kernel_rfl) rfl (R.tt (R.eql rfl rfl) (by first | decide | simp | omega)) rfl ?_; clear hA a; intro a hA
              refine S.valg (dj := 139) hA (by kernel_rfl) rfl (R.move rfl) rfl ?_; clear hA a; intro a hA
              refine S.valg (dj := 142) hA (by kernel_rfl) rfl (R.move rfl) rfl ?_; clear hA a; intro a hA
              refine S.valg (dj := 142) hA (by kernel_rfl) rfl (R.tt (R.eql rfl rfl) (by first | decide | simp | omega)) rfl ?_; clear hA a; intro a hA
              refine S.valg (dj := 139) hA (by kernel_rfl) rfl (R.pickT rfl rfl) rfl ?_; clear hA a; intro a hA
              refine S.valg (dj := 132) hA (by kernel_rfl) rfl (R.pickF rfl rfl) rfl ?_; clear hA a; intro a hA
              refine S.val hA (R.pickT rfl rfl) rfl ?_; clear hA a; intro a hA
              refine S.val hA (R.assign rfl) rfl ?_; clear hA a; intro a hA
              refine S.done ?_
              replace hA : St 148 [(6, _)] a := hA.sub ((.cons rfl .nil))
              refine Ends.ret1 Tryd.func6 Tryd.results6 hA rfl ?_
              exact ⟨rfl, hM.nilL.below⟩
            ·
              refine Ends.region ?_
              refine S.val hA (R.move rfl) rfl ?_; clear hA a; intro a hA
              refine S.val hA (R.to (v := .string (numS d)) (R.addS rfl rfl (by rw [show (⟨(List.replicate i3 55).toArray⟩ : ByteArray).size = i3 by rw [size_mk, List.length_replicate]]; show 2 + i3 ≤ _; omega)) (congrArg Value.string (by rw [show i3 = d by omega]; exact ba_num d))) rfl ?_; clear hA a; intro a hA
              obtain ⟨X45, hX46⟩ : ∃ X : List Tok, scan ((numS d)) = (X, 0, 0) := (scan_num (m := d) (by omega) (by omega)).2 (by omega)
              refine S.call hA (R.callF Tryd.func13 rfl rfl rfl) rfl (scan_eq ((numS d)) (by rw [numS_size]; omega) X45 0 0 hX46 _ (htab.mem hM OffT.nof)) ?_; clear hA a
              rintro e w15 ⟨a43, c44, rfl, hn⟩
              replace hM : Mem _ _ [own 36 4 (.slice a43 X45.length c44) X45.length (tokv X45), own 36 4 (.slice a34 X36.length c35) X36.length (tokv X36), own 36 4 (.slice a14 X16.length c15) X16.length (tokv X16), pt b10 ((bys (List.replicate N (32 : Int)))) 5] _ := hM.call hn; clear hn
              refine ⟨.tuple #[.slice a43 X45.length c44, .int .i64 0, .int .i64 0], rfl, fun a hA => ?_⟩
              refine S.val hA (R.move rfl) rfl ?_; clear hA a; intro a hA
              refine S.val hA (R.extract (v := .slice a43 X45.length c44) rfl rfl) rfl ?_; clear hA a; intro a hA
              refine S.val hA (R.extract (v := .int .i64 0) rfl rfl) rfl ?_; clear hA a; intro a hA
              refine S.val hA (R.extract (v := .int .i64 0) rfl rfl) rfl ?_; clear hA a; intro a hA
              refine S.val hA (R.assign rfl) rfl ?_; clear hA a; intro a hA
              refine S.val hA (R.assign rfl) rfl ?_; clear hA a; intro a hA
              refine S.val hA (R.assign rfl) rfl ?_; clear hA a; intro a hA
              refine S.done ?_
              replace hA : St 148 [(0, _), (1, _), (2, _), (10, _), (11, _), (17, _), (18, _), (20, _), (21, _)] a := hA.sub ((.cons rfl (.cons rfl (.cons rfl (.cons rfl (.cons rfl (.cons rfl (.cons rfl (.cons rfl (.cons rfl .nil))))))))))
              refine Ends.seq ?_
              refine Ends.region ?_
              refine S.call hA (R.callF Tryd.func12 rfl rfl rfl) rfl (lexes_any _ (htab.mem hM OffT.nof)) ?_; clear hA a
              rintro e w16 ⟨rfl, hb⟩
              replace hM := hM.callB hb; clear hb
              refine ⟨.bool true, rfl, fun a hA => ?_⟩
              refine S.val hA (R.move rfl) rfl ?_; clear hA a; intro a hA
              refine S.valg (dj := 83) hA (by kernel_rfl) rfl (R.move rfl) rfl ?_; clear hA a; intro a hA
              refine S.valg (dj := 83) hA (by kernel_rfl) rfl (R.tt (R.eql rfl rfl) (by first | decide | simp | omega)) rfl ?_; clear hA a; intro a hA
              refine S.val hA (R.pickT rfl rfl) rfl ?_; clear hA a; intro a hA
              refine S.val hA (R.move rfl) rfl ?_; clear hA a; intro a hA
              refine S.valg (dj := 87) hA (by kernel_rfl) rfl (R.move rfl) rfl ?_; clear hA a; intro a hA
              refine S.valg (dj := 87) hA (by kernel_rfl) rfl (R.ff (R.eql rfl rfl) (by first | decide | simp | omega)) rfl ?_; clear hA a; intro a hA
              refine S.valg (dj := 87) hA (by kernel_rfl) rfl (R.move rfl) rfl ?_; clear hA a; intro a hA
              refine S.valg (dj := 87) hA (by kernel_rfl) rfl (R.ff (R.leq rfl rfl) (by omega)) rfl ?_; clear hA a; intro a hA
              refine S.valg (dj := 87) hA (by kernel_rfl) rfl (R.to (v := .bool true) (R.eqlB Tryd.underlying4 rfl rfl) (congrArg Value.bool (by simp))) rfl ?_; clear hA a; intro a hA
              refine S.val hA (R.pickT rfl rfl) rfl ?_; clear hA a; intro a hA
              refine S.val hA (R.move rfl) rfl ?_; clear hA a; intro a hA
              refine S.valg (dj := 94) hA (by kernel_rfl) rfl (R.move rfl) rfl ?_; clear hA a; intro a hA
              refine S.valg (dj := 94) hA (by kernel_rfl) rfl (R.ff (R.eql rfl rfl) (by first | decide | simp | omega)) rfl ?_; clear hA a; intro a hA
              refine S.valg (dj := 94) hA (by kernel_rfl) rfl (R.move rfl) rfl ?_; clear hA a; intro a hA
              refine S.valg (dj := 97) hA (by kernel_rfl) rfl (R.move rfl) rfl ?_; clear hA a; intro a hA
              refine S.valg (dj := 97) hA (by kernel_rfl) rfl (R.tt (R.eql rfl rfl) (by first | decide | simp | omega)) rfl ?_; clear hA a; intro a hA
              refine S.valg (dj := 94) hA (by kernel_rfl) rfl (R.pickF rfl rfl) rfl ?_; clear hA a; intro a hA
              refine S.val hA (R.pickT rfl rfl) rfl ?_; clear hA a; intro a hA
              refine S.val hA (R.move rfl) rfl ?_; clear hA a; intro a hA
              refine S.valg (dj := 102) hA (by kernel_rfl) rfl (R.move rfl) rfl ?_; clear hA a; intro a hA
              refine S.valg (dj := 102) hA (by kernel_rfl) rfl (R.tt (R.eql rfl rfl) (by first | decide | simp | omega)) rfl ?_; clear hA a; intro a hA
              refine S.valg (dj := 102) hA (by kernel_rfl) rfl (R.move rfl) rfl ?_; clear hA a; intro a hA
              refine S.valg (dj := 102) hA (by kernel_rfl) rfl (R.tt (R.leq rfl rfl) (by omega)) rfl ?_; clear hA a; intro a hA
              refine S.valg (dj := 102) hA (by kernel_rfl) rfl (R.to (v := .bool true) (R.eqlB Tryd.underlying4 rfl rfl) (congrArg Value.bool (by simp))) rfl ?_; clear hA a; intro a hA
              refine S.val hA (R.pickT rfl rfl) rfl ?_; clear hA a; intro a hA
              refine S.val hA (R.move rfl) rfl ?_; clear hA a; intro a hA
              refine S.valg (dj := 109) hA (by kernel_rfl) rfl (R.move rfl) rfl ?_; clear hA a; intro a hA
              refine S.valg (dj := 109) hA (by kernel_rfl) rfl (R.tt (R.eql rfl rfl) (by first | decide | simp | omega)) rfl ?_; clear hA a; intro a hA
              refine S.valg (dj := 109) hA (by kernel_rfl) rfl (R.move rfl) rfl ?_; clear hA a; intro a hA
              refine S.valg (dj := 112) hA (by kernel_rfl) rfl (R.move rfl) rfl ?_; clear hA a; intro a hA
              refine S.valg (dj := 112) hA (by kernel_rfl) rfl (R.tt (R.eql rfl rfl) (by first | decide | simp | omega)) rfl ?_; clear hA a; intro a hA
              refine S.valg (dj := 109) hA (by kernel_rfl) rfl (R.pickT rfl rfl) rfl ?_; clear hA a; intro a hA
              refine S.valg (dj := 109) hA (by kernel_rfl) rfl (R.move rfl) rfl ?_; clear hA a; intro a hA
              refine S.no (dj := 116) hA (by kernel_rfl) rfl rfl rfl ?_; clear hA a; intro a hA
              refine S.no (dj := 116) hA (by kernel_rfl) rfl rfl rfl ?_; clear hA a; intro a hA
              refine S.no (dj := 116) hA (by kernel_rfl) rfl rfl rfl ?_; clear hA a; intro a hA
              refine S.noU (dj := 119) hA (by kernel_rfl) rfl rfl ?_; clear hA a; intro a hA
              refine S.noU (dj := 119) hA (by kernel_rfl) rfl rfl ?_; clear hA a; intro a hA
              refine S.no (dj := 116) hA (by kernel_rfl) rfl rfl rfl ?_; clear hA a; intro a hA
              refine S.valg (dj := 109) hA (by kernel_rfl) rfl (R.pickT rfl rfl) rfl ?_; clear hA a; intro a hA
              refine S.val hA (R.pickT rfl rfl) rfl ?_; clear hA a; intro a hA
              refine S.val hA (R.move rfl) rfl ?_; clear hA a; intro a hA
              refine S.valg (dj := 125) hA (by kernel_rfl) rfl (R.move rfl) rfl ?_; clear hA a; intro a hA
              refine S.valg (dj := 125) hA (by kernel_rfl) rfl (R.tt (R.eql rfl rfl) (by first | decide | simp | omega)) rfl ?_; clear hA a; intro a hA
              refine S.valg (dj := 125) hA (by kernel_rfl) rfl (R.move rfl) rfl ?_; clear hA a; intro a hA
              refine S.valg (dj := 125) hA (by kernel_rfl) rfl (R.tt (R.leq rfl rfl) (by omega)) rfl ?_; clear hA a; intro a hA
              refine S.valg (dj := 125) hA (by kernel_rfl) rfl (R.to (v := .bool true) (R.eqlB Tryd.underlying4 rfl rfl) (congrArg Value.bool (by simp))) rfl ?_; clear hA a; intro a hA
              refine S.val hA (R.pickT rfl rfl) rfl ?_; clear hA a; intro a hA
              refine S.val hA (R.move rfl) rfl ?_; clear hA a; intro a hA
              refine S.valg (dj := 132) hA (by kernel_rfl) rfl (R.move rfl) rfl ?_; clear hA a; intro a hA
              refine S.valg (dj := 132) hA (by kernel_rfl) rfl (R.tt (R.eql rfl rfl) (by first | decide | simp | omega)) rfl ?_; clear hA a; intro a hA
              refine S.valg (dj := 132) hA (by kernel_rfl) rfl (R.move rfl) rfl ?_; clear hA a; intro a hA
              refine S.valg (dj := 135) hA (by kernel_rfl) rfl (R.move rfl) rfl ?_; clear hA a; intro a hA
              refine S.valg (dj := 135) hA (by kernel_rfl) rfl (R.tt (R.eql rfl rfl) (by first | decide | simp | omega)) rfl ?_; clear hA a; intro a hA
              refine S.valg (dj := 132) hA (by kernel_rfl) rfl (R.pickT rfl rfl) rfl ?_; clear hA a; intro a hA
              refine S.valg (dj := 132) hA (by kernel_rfl) rfl (R.move rfl) rfl ?_; clear hA a; intro a hA
              refine S.no (dj := 139) hA (by kernel_rfl) rfl rfl rfl ?_; clear hA a; intro a hA
              refine S.no (dj := 139) hA (by kernel_rfl) rfl rfl rfl ?_; clear hA a; intro a hA
              refine S.no (dj := 139) hA (by kernel_rfl) rfl rfl rfl ?_; clear hA a; intro a hA
              refine S.noU (dj := 142) hA (by kernel_rfl) rfl rfl ?_; clear hA a; intro a hA
              refine S.noU (dj := 142) hA (by kernel_rfl) rfl rfl ?_; clear hA a; intro a hA
              refine S.no (dj := 139) hA (by kernel_rfl) rfl rfl rfl ?_; clear hA a; intro a hA
              refine S.valg (dj := 132) hA (by kernel_rfl) rfl (R.pickT rfl rfl) rfl ?_; clear hA a; intro a hA
              refine S.val hA (R.pickT rfl rfl) rfl ?_; clear hA a; intro a hA
              refine S.val hA (R.assign rfl) rfl ?_; clear hA a; intro a hA
              refine S.done ?_
              replace hA : St 148 [(6, _)] a := hA.sub ((.cons rfl .nil))
              refine Ends.ret1 Tryd.func6 Tryd.results6 hA rfl ?_
              exact ⟨rfl, hM.nilL.below⟩
    ·
      refine Ends.region ?_
      refine S.val hA (R.move rfl) rfl ?_; clear hA a; intro a hA
      refine S.val hA (R.to (v := .string ⟨(List.replicate N 32).toArray⟩) (R.bytesStr (ns := List.replicate N 32) hM (k := 0) rfl Tryd.underlying33 Tryd.underlying5 Tryd.underlying9 (by rw [List.length_replicate]; rfl)) (by rw [List.map_replicate]; rfl)) rfl ?_; clear hA a; intro a hA
      obtain ⟨X49, hX50⟩ : ∃ X : List Tok, scan (⟨(List.replicate N 32).toArray⟩) = (X, 0, 0) := ⟨_, (scan_sp N).trans (if_neg hs13)⟩
      refine S.call hA (R.callF Tryd.func13 rfl rfl rfl) rfl (scan_eq (⟨(List.replicate N 32).toArray⟩) (by rw [size_mk, List.length_replicate]; omega) X49 0 0 hX50 _ (htab.mem hM OffT.nof)) ?_; clear hA a
      rintro e w17 ⟨a47, c48, rfl, hn⟩
      replace hM : Mem _ _ [own 36 4 (.slice a47 X49.length c48) X49.length (tokv X49), pt b10 ((bys (List.replicate N (32 : Int)))) 5] _ := hM.call hn; clear hn
      refine ⟨.tuple #[.slice a47 X49.length c48, .int .i64 0, .int .i64 0], rfl, fun a hA => ?_⟩
      refine S.val hA (R.move rfl) rfl ?_; clear hA a; intro a hA
      refine S.val hA (R.extract (v := .slice a47 X49.length c48) rfl rfl) rfl ?_; clear hA a; intro a hA
      refine S.val hA (R.extract (v := .int .i64 0) rfl rfl) rfl ?_; clear hA a; intro a hA
      refine S.val hA (R.extract (v := .int .i64 0) rfl rfl) rfl ?_; clear hA a; intro a hA
      refine S.val hA (R.assign rfl) rfl ?_; clear hA a; intro a hA
      refine S.val hA (R.assign rfl) rfl ?_; clear hA a; intro a hA
      refine S.val hA (R.assign rfl) rfl ?_; clear hA a; intro a hA
      refine S.done ?_
      replace hA : St 148 [(0, _), (1, _), (2, _), (10, _), (11, _)] a := hA.sub ((.cons rfl (.cons rfl (.cons rfl (.cons rfl (.cons rfl .nil))))))
      refine Ends.seq ?_
      refine Ends.region ?_
      refine S.val hA (R.assign rfl) rfl ?_; clear hA a; intro a hA
      refine S.val hA (R.assign rfl) rfl ?_; clear hA a; intro a hA
      refine S.done ?_
      replace hA : St 148 [(0, _), (1, _), (2, _), (10, _), (11, _), (12, _), (13, _)] a := hA.sub ((.cons rfl (.cons rfl (.cons rfl (.cons rfl (.cons rfl (.cons rfl (.cons rfl .nil))))))))
      refine Ends.seq ?_
      refine Ends.seq ?_
      refine Ends.region ?_
      refine S.val hA (R.assign rfl) rfl ?_; clear hA a; intro a hA
      refine S.done ?_
      replace hA : St 148 [(0, _), (1, _), (2, _), (10, _), (11, _), (12, _), (13, _), (14, _)] a := hA.sub ((.cons rfl (.cons rfl (.cons rfl (.cons rfl (.cons rfl (.cons rfl (.cons rfl (.cons rfl .nil)))))))))
      refine Ends.block ?_
      refine Ends.loop (σ := Nat) (fun i2 (a : Act) (wv : World) => St 148 [(0, .int .i64 ((N : Int))), (1, .int .i64 ((m : Int))), (2, .int .i64 ((d : Int))), (10, .int .i64 0), (11, .int .i64 0), (12, .string (⟨(List.replicate i2 107).toArray⟩)), (13, .string (⟨#[]⟩)), (14, .int .i64 ((i2 : Int)))] a ∧ Mem w nof [own 36 4 (.slice a47 X49.length c48) X49.length (tokv X49), pt b10 ((bys (List.replicate N (32 : Int)))) 5] wv ∧ (i2 ≤ m)) (fun i2 => m - i2) 0 ⟨hA.sub ((.cons rfl (.cons rfl (.cons rfl (.cons rfl (.cons rfl (.cons rfl (.cons rfl (.cons rfl .nil))))))))), hM, (Nat.zero_le _)⟩ ?_
      clear hA hM a
      rintro i2 a w18 ⟨hA, hM, hi2⟩ hNext1
      refine Ends.seq ?_
      refine Ends.seq ?_
      refine Ends.region ?_
      refine S.val hA (R.move rfl) rfl ?_; clear hA a; intro a hA
      refine S.val hA (R.move rfl) rfl ?_; clear hA a; intro a hA
      refine S.val hA (R.lss rfl rfl) rfl ?_; clear hA a; intro a hA
      refine S.done ?_
      replace hA : St 148 [(0, _), (1, _), (2, _), (10, _), (11, _), (12, _), (13, _), (14, _), (56, _)] a := hA.sub ((.cons rfl (.cons rfl (.cons rfl (.cons rfl (.cons rfl (.cons rfl (.cons rfl (.cons rfl (.cons rfl .nil))))))))))
      refine Ends.ite hA rfl (fun hc51 => ?_) (fun hc51 => ?_)
      ·
        refine Ends.skip ?_
        refine Ends.seq ?_
        refine Ends.block ?_
        refine Ends.region ?_
        refine S.val hA (R.move rfl) rfl ?_; clear hA a; intro a hA
        refine S.val hA (R.to (v := .string ⟨(List.replicate (i2 + 1) 107).toArray⟩) (R.addS rfl rfl (by rw [size_mk, List.length_replicate]; show i2 + 1 ≤ _; omega)) (congrArg Value.string (ba_snocR 107 i2))) rfl ?_; clear hA a; intro a hA
        refine S.val hA (R.assign rfl) rfl ?_; clear hA a; intro a hA
        refine S.done ?_
        replace hA : St 148 [(0, _), (1, _), (2, _), (10, _), (11, _), (12, _), (13, _), (14, _)] a := hA.sub ((.cons rfl (.cons rfl (.cons rfl (.cons rfl (.cons rfl (.cons rfl (.cons rfl (.cons rfl .nil)))))))))
        refine Ends.inBlock ?_
        refine Ends.region ?_
        refine S.val hA (R.move rfl) rfl ?_; clear hA a; intro a hA
        refine S.val hA (R.addI rfl rfl (r := ((i2 : Int)) + 1) rfl (by omega)) rfl ?_; clear hA a; intro a hA
        refine S.val hA (R.assign rfl) rfl ?_; clear hA a; intro a hA
        refine S.done ?_
        replace hA : St 148 [(0, _), (1, _), (2, _), (10, _), (11, _), (12, _), (13, _), (14, _)] a := hA.sub ((.cons rfl (.cons rfl (.cons rfl (.cons rfl (.cons rfl (.cons rfl (.cons rfl (.cons rfl .nil)))))))))
        exact hNext1 ((i2 + 1)) _ _ ((by show m - (i2 + 1) < m - i2; omega)) ⟨hA.sub ((.cons rfl (.cons rfl (.cons rfl (.cons rfl (.cons rfl (.cons rfl (.cons rfl (.cons rfl .nil))))))))), hM, (by omega)⟩
      ·
        refine Ends.exit rfl ?_
        replace hA : St 148 [(0, _), (1, _), (2, _), (10, _), (11, _), (12, _), (13, _)] a := hA.sub ((.cons rfl (.cons rfl (.cons rfl (.cons rfl (.cons rfl (.cons rfl (.cons rfl .nil))))))))
        refine Ends.seq ?_
        refine Ends.seq ?_
        refine Ends.region ?_
        refine S.val hA (R.assign rfl) rfl ?_; clear hA a; intro a hA
        refine S.done ?_
        replace hA : St 148 [(0, _), (1, _), (2, _), (10, _), (11, _), (12, _), (13, _), (15, _)] a := hA.sub ((.cons rfl (.cons rfl (.cons rfl (.cons rfl (.cons rfl (.cons rfl (.cons rfl (.cons rfl .nil)))))))))
        refine Ends.block ?_
        refine Ends.loop (σ := Nat) (fun i3 (a : Act) (wv : World) => St 148 [(0, .int .i64 ((N : Int))), (1, .int .i64 ((m : Int))), (2, .int .i64 ((d : Int))), (10, .int .i64 0), (11, .int .i64 0), (12, .string (⟨(List.replicate i2 107).toArray⟩)), (13, .string (⟨(List.replicate i3 55).toArray⟩)), (15, .int .i64 ((i3 : Int)))] a ∧ Mem w nof [own 36 4 (.slice a47 X49.length c48) X49.length (tokv X49), pt b10 ((bys (List.replicate N (32 : Int)))) 5] wv ∧ (i3 ≤ d)) (fun i3 => d - i3) 0 ⟨hA.sub ((.cons rfl (.cons rfl (.cons rfl (.cons rfl (.cons rfl (.cons rfl (.cons rfl (.cons rfl .nil))))))))), hM, (Nat.zero_le _)⟩ ?_
        clear hA hM a
        rintro i3 a w19 ⟨hA, hM, hi3⟩ hNext2
        refine Ends.seq ?_
        refine Ends.seq ?_
        refine Ends.region ?_
        refine S.val hA (R.move rfl) rfl ?_; clear hA a; intro a hA
        refine S.val hA (R.move rfl) rfl ?_; clear hA a; intro a hA
        refine S.val hA (R.lss rfl rfl) rfl ?_; clear hA a; intro a hA
        refine S.done ?_
        replace hA : St 148 [(0, _), (1, _), (2, _), (10, _), (11, _), (12, _), (13, _), (15, _), (63, _)] a := hA.sub ((.cons rfl (.cons rfl (.cons rfl (.cons rfl (.cons rfl (.cons rfl (.cons rfl (.cons rfl (.cons rfl .nil))))))))))
        refine Ends.ite hA rfl (fun hc52 => ?_) (fun hc52 => ?_)
        ·
          refine Ends.skip ?_
          refine Ends.seq ?_
          refine Ends.block ?_
          refine Ends.region ?_
          refine S.val hA (R.move rfl) rfl ?_; clear hA a; intro a hA
          refine S.val hA (R.to (v := .string ⟨(List.replicate (i3 + 1) 55).toArray⟩) (R.addS rfl rfl (by rw [size_mk, List.length_replicate]; show i3 + 1 ≤ _; omega)) (congrArg Value.string (ba_snocR 55 i3))) rfl ?_; clear hA a; intro a hA
          refine S.val hA (R.assign rfl) rfl ?_; clear hA a; intro a hA
          refine S.done ?_
          replace hA : St 148 [(0, _), (1, _), (2, _), (10, _), (11, _), (12, _), (13, _), (15, _)] a := hA.sub ((.cons rfl (.cons rfl (.cons rfl (.cons rfl (.cons rfl (.cons rfl (.cons rfl (.cons rfl .nil)))))))))
          refine Ends.inBlock ?_
          refine Ends.region ?_
          refine S.val hA (R.move rfl) rfl ?_; clear hA a; intro a hA
          refine S.val hA (R.addI rfl rfl (r := ((i3 : Int)) + 1) rfl (by omega)) rfl ?_; clear hA a; intro a hA
          refine S.val hA (R.assign rfl) rfl ?_; clear hA a; intro a hA
          refine S.done ?_
          replace hA : St 148 [(0, _), (1, _), (2, _), (10, _), (11, _), (12, _), (13, _), (15, _)] a := hA.sub ((.cons rfl (.cons rfl (.cons rfl (.cons rfl (.cons rfl (.cons rfl (.cons rfl (.cons rfl .nil)))))))))
          exact hNext2 ((i3 + 1)) _ _ ((by show d - (i3 + 1) < d - i3; omega)) ⟨hA.sub ((.cons rfl (.cons rfl (.cons rfl (.cons rfl (.cons rfl (.cons rfl (.cons rfl (.cons rfl .nil))))))))), hM, (by omega)⟩
        ·
          refine Ends.exit rfl ?_
          replace hA : St 148 [(0, _), (1, _), (2, _), (10, _), (11, _), (12, _), (13, _)] a := hA.sub ((.cons rfl (.cons rfl (.cons rfl (.cons rfl (.cons rfl (.cons rfl (.cons rfl .nil))))))))
          refine Ends.seq ?_
          by_cases hs53 : 16 < m
          ·
            refine Ends.region ?_
            refine S.val hA (R.move rfl) rfl ?_; clear hA a; intro a hA
            refine S.val hA (R.to (v := .string (wrdS m)) (R.addS rfl rfl (by rw [show (⟨(List.replicate i2 107).toArray⟩ : ByteArray).size = i2 by rw [size_mk, List.length_replicate]]; show 1 + i2 ≤ _; omega)) (congrArg Value.string (by rw [show i2 = m by omega]; exact ba_wrd m))) rfl ?_; clear hA a; intro a hA
            obtain ⟨X56, hX57⟩ : ∃ X : List Tok, scan ((wrdS m)) = (X, 1, 5) := ⟨_, (scan_wrd (m := m) (by omega) (by omega)).1 hs53⟩
            refine S.call hA (R.callF Tryd.func13 rfl rfl rfl) rfl (scan_eq ((wrdS m)) (by rw [wrdS_size]; omega) X56 1 5 hX57 _ (htab.mem hM OffT.nof)) ?_; clear hA a
            rintro e w20 ⟨a54, c55, rfl, hn⟩
            replace hM : Mem _ _ [own 36 4 (.slice a54 X56.length c55) X56.length (tokv X56), own 36 4 (.slice a47 X49.length c48) X49.length (tokv X49), pt b10 ((bys (List.replicate N (32 : Int)))) 5] _ := hM.call hn; clear hn
            refine ⟨.tuple #[.slice a54 X56.length c55, .int .i64 1, .int .i64 5], rfl, fun a hA => ?_⟩
            refine S.val hA (R.move rfl) rfl ?_; clear hA a; intro a hA
            refine S.val hA (R.extract (v := .slice a54 X56.length c55) rfl rfl) rfl ?_; clear hA a; intro a hA
            refine S.val hA (R.extract (v := .int .i64 1) rfl rfl) rfl ?_; clear hA a; intro a hA
            refine S.val hA (R.extract (v := .int .i64 5) rfl rfl) rfl ?_; clear hA a; intro a hA
            refine S.val hA (R.assign rfl) rfl ?_; clear hA a; intro a hA
            refine S.val hA (R.assign rfl) rfl ?_; clear hA a; intro a hA
            refine S.val hA (R.assign rfl) rfl ?_; clear hA a; intro a hA
            refine S.done ?_
            replace hA : St 148 [(0, _), (1, _), (2, _), (10, _), (11, _), (13, _), (17, _), (18, _)] a := hA.sub ((.cons rfl (.cons rfl (.cons rfl (.cons rfl (.cons rfl (.cons rfl (.cons rfl (.cons rfl .nil)))))))))
            refine Ends.seq ?_
            by_cases hs58 : 18 < d
            ·
              refine Ends.region ?_
              refine S.val hA (R.move rfl) rfl ?_; clear hA a; intro a hA
              refine S.val hA (R.to (v := .string (numS d)) (R.addS rfl rfl (by rw [show (⟨(List.replicate i3 55).toArray⟩ : ByteArray).size = i3 by rw [size_mk, List.length_replicate]]; show 2 + i3 ≤ _; omega)) (congrArg Value.string (by rw [show i3 = d by omega]; exact ba_num d))) rfl ?_; clear hA a; intro a hA
              obtain ⟨X61, hX62⟩ : ∃ X : List Tok, scan ((numS d)) = (X, 2, 5) := ⟨_, (scan_num (m := d) (by omega) (by omega)).1 hs58⟩
              refine S.call hA (R.callF Tryd.func13 rfl rfl rfl) rfl (scan_eq ((numS d)) (by rw [numS_size]; omega) X61 2 5 hX62 _ (htab.mem hM OffT.nof)) ?_; clear hA a
              rintro e w21 ⟨a59, c60, rfl, hn⟩
              replace hM : Mem _ _ [own 36 4 (.slice a59 X61.length c60) X61.length (tokv X61), own 36 4 (.slice a54 X56.length c55) X56.length (tokv X56), own 36 4 (.slice a47 X49.length c48) X49.length (tokv X49), pt b10 ((bys (List.replicate N (32 : Int)))) 5] _ := hM.call hn; clear hn
              refine ⟨.tuple #[.slice a59 X61.length c60, .int .i64 2, .int .i64 5], rfl, fun a hA => ?_⟩
              refine S.val hA (R.move rfl) rfl ?_; clear hA a; intro a hA
              refine S.val hA (R.extract (v := .slice a59 X61.length c60) rfl rfl) rfl ?_; clear hA a; intro a hA
              refine S.val hA (R.extract (v := .int .i64 2) rfl rfl) rfl ?_; clear hA a; intro a hA
              refine S.val hA (R.extract (v := .int .i64 5) rfl rfl) rfl ?_; clear hA a; intro a hA
              refine S.val hA (R.assign rfl) rfl ?_; clear hA a; intro a hA
              refine S.val hA (R.assign rfl) rfl ?_; clear hA a; intro a hA
              refine S.val hA (R.assign rfl) rfl ?_; clear hA a; intro a hA
              refine S.done ?_
              replace hA : St 148 [(0, _), (1, _), (2, _), (10, _), (11, _), (17, _), (18, _), (20, _), (21, _)] a := hA.sub ((.cons rfl (.cons rfl (.cons rfl (.cons rfl (.cons rfl (.cons rfl (.cons rfl (.cons rfl (.cons rfl .nil))))))))))
              refine Ends.seq ?_
              refine Ends.region ?_
              refine S.call hA (R.callF Tryd.func12 rfl rfl rfl) rfl (lexes_any _ (htab.mem hM OffT.nof)) ?_; clear hA a
              rintro e w22 ⟨rfl, hb⟩
              replace hM := hM.callB hb; clear hb
              refine ⟨.bool true, rfl, fun a hA => ?_⟩
              refine S.val hA (R.move rfl) rfl ?_; clear hA a; intro a hA
              refine S.valg (dj := 83) hA (by kernel_rfl) rfl (R.move rfl) rfl ?_; clear hA a; intro a hA
              refine S.valg (dj := 83) hA (by kernel_rfl) rfl (R.tt (R.eql rfl rfl) (by first | decide | simp | omega)) rfl ?_; clear hA a; intro a hA
              refine S.val hA (R.pickT rfl rfl) rfl ?_; clear hA a; intro a hA
              refine S.val hA (R.move rfl) rfl ?_; clear hA a; intro a hA
              refine S.valg (dj := 87) hA (by kernel_rfl) rfl (R.move rfl) rfl ?_; clear hA a; intro a hA
              refine S.valg (dj := 87) hA (by kernel_rfl) rfl (R.tt (R.eql rfl rfl) (by first | decide | simp | omega)) rfl ?_; clear hA a; intro a hA
              refine S.valg (dj := 87) hA (by kernel_rfl) rfl (R.move rfl) rfl ?_; clear hA a; intro a hA
              refine S.valg (dj := 87) hA (by kernel_rfl) rfl (R.tt (R.leq rfl rfl) (by omega)) rfl ?_; clear hA a; intro a hA
              refine S.valg (dj := 87) hA (by kernel_rfl) rfl (R.to (v := .bool true) (R.eqlB Tryd.underlying4 rfl rfl) (congrArg Value.bool (by simp))) rfl ?_; clear hA a; intro a hA
              refine S.val hA (R.pickT rfl rfl) rfl ?_; clear hA a; intro a hA
              refine S.val hA (R.move rfl) rfl ?_; clear hA a; intro a hA
              refine S.valg (dj := 94) hA (by kernel_rfl) rfl (R.move rfl) rfl ?_; clear hA a; intro a hA
              refine S.valg (dj := 94) hA (by kernel_rfl) rfl (R.tt (R.eql rfl rfl) (by first | decide | simp | omega)) rfl ?_; clear hA a; intro a hA
              refine S.valg (dj := 94) hA (by kernel_rfl) rfl (R.move rfl) rfl ?_; clear hA a; intro a hA
              refine S.no (dj := 97) hA (by kernel_rfl) rfl rfl rfl ?_; clear hA a; intro a hA
              refine S.no (dj := 97) hA (by kernel_rfl) rfl rfl rfl ?_; clear hA a; intro a hA
              refine S.valg (dj := 94) hA (by kernel_rfl) rfl (R.pickT rfl rfl) rfl ?_; clear hA a; intro a hA
              refine S.val hA (R.pickT rfl rfl) rfl ?_; clear hA a; intro a hA
              refine S.val hA (R.move rfl) rfl ?_; clear hA a; intro a hA
              refine S.valg (dj := 102) hA (by kernel_rfl) rfl (R.move rfl) rfl ?_; clear hA a; intro a hA
              refine S.valg (dj := 102) hA (by kernel_rfl) rfl (R.ff (R.eql rfl rfl) (by first | decide | simp | omega)) rfl ?_; clear hA a; intro a hA
              refine S.valg (dj := 102) hA (by kernel_rfl) rfl (R.move rfl) rfl ?_; clear hA a; intro a hA
              refine S.valg (dj := 102) hA (by kernel_rfl) rfl (R.ff (R.leq rfl rfl) (by omega)) rfl ?_; clear hA a; intro a hA
              refine S.valg (dj := 102) hA (by kernel_rfl) rfl (R.to (v := .bool true) (R.eqlB Tryd.underlying4 rfl rfl) (congrArg Value.bool (by simp))) rfl ?_; clear hA a; intro a hA
              refine S.val hA (R.pickT rfl rfl) rfl ?_; clear hA a; intro a hA
              refine S.val hA (R.move rfl) rfl ?_; clear hA a; intro a hA
              refine S.valg (dj := 109) hA (by kernel_rfl) rfl (R.move rfl) rfl ?_; clear hA a; intro a hA
              refine S.valg (dj := 109) hA (by kernel_rfl) rfl (R.ff (R.eql rfl rfl) (by first | decide | simp | omega)) rfl ?_; clear hA a; intro a hA
              refine S.valg (dj := 109) hA (by kernel_rfl) rfl (R.move rfl) rfl ?_; clear hA a; intro a hA
              refine S.no (dj := 112) hA (by kernel_rfl) rfl rfl rfl ?_; clear hA a; intro a hA
              refine S.no (dj := 112) hA (by kernel_rfl) rfl rfl rfl ?_; clear hA a; intro a hA
              refine S.valg (dj := 109) hA (by kernel_rfl) rfl (R.pickF rfl rfl) rfl ?_; clear hA a; intro a hA
              refine S.valg (dj := 109) hA (by kernel_rfl) rfl (R.move rfl) rfl ?_; clear hA a; intro a hA
              refine S.valg (dj := 116) hA (by kernel_rfl) rfl (R.move rfl) rfl ?_; clear hA a; intro a hA
              refine S.valg (dj := 116) hA (by kernel_rfl) rfl (R.tt (R.eql rfl rfl) (by first | decide | simp | omega)) rfl ?_; clear hA a; intro a hA
              refine S.valg (dj := 116) hA (by kernel_rfl) rfl (R.move rfl) rfl ?_; clear hA a; intro a hA
              refine S.valg (dj := 119) hA (by kernel_rfl) rfl (R.move rfl) rfl ?_; clear hA a; intro a hA
              refine S.valg (dj := 119) hA (by kernel_rfl) rfl (R.tt (R.eql rfl rfl) (by first | decide | simp | omega)) rfl ?_; clear hA a; intro a hA
              refine S.valg (dj := 116) hA (by kernel_rfl) rfl (R.pickT rfl rfl) rfl ?_; clear hA a; intro a hA
              refine S.valg (dj := 109) hA (by kernel_rfl) rfl (R.pickF rfl rfl) rfl ?_; clear hA a; intro a hA
              refine S.val hA (R.pickT rfl rfl) rfl ?_; clear hA a; intro a hA
              refine S.val hA (R.move rfl) rfl ?_; clear hA a; intro a hA
              refine S.valg (dj := 125) hA (by kernel_rfl) rfl (R.move rfl) rfl ?_; clear hA a; intro a hA
              refine S.valg (dj := 125) hA (by kernel_rfl) rfl (R.ff (R.eql rfl rfl) (by first | decide | simp | omega)) rfl ?_; clear hA a; intro a hA
              refine S.valg (dj := 125) hA (by kernel_rfl) rfl (R.move rfl) rfl ?_; clear hA a; intro a hA
              refine S.valg (dj := 125) hA (by kernel_rfl) rfl (R.ff (R.leq rfl rfl) (by omega)) rfl ?_; clear hA a; intro a hA
              refine S.valg (dj := 125) hA (by kernel_rfl) rfl (R.to (v := .bool true) (R.eqlB Tryd.underlying4 rfl rfl) (congrArg Value.bool (by simp))) rfl ?_; clear hA a; intro a hA
              refine S.val hA (R.pickT rfl rfl) rfl ?_; clear hA a; intro a hA
              refine S.val hA (R.move rfl) rfl ?_; clear hA a; intro a hA
              refine S.valg (dj := 132) hA (by kernel_rfl) rfl (R.move rfl) rfl ?_; clear hA a; intro a hA
              refine S.valg (dj := 132) hA (by kernel_rfl) rfl (R.ff (R.eql rfl rfl) (by first | decide | simp | omega)) rfl ?_; clear hA a; intro a hA
              refine S.valg (dj := 132) hA (by kernel_rfl) rfl (R.move rfl) rfl ?_; clear hA a; intro a hA
              refine S.no (dj := 135) hA (by kernel_rfl) rfl rfl rfl ?_; clear hA a; intro a hA
              refine S.no (dj := 135) hA (by kernel_rfl) rfl rfl rfl ?_; clear hA a; intro a hA
              refine S.valg (dj := 132) hA (by kernel_rfl) rfl (R.pickF rfl rfl) rfl ?_; clear hA a; intro a hA
              refine S.valg (dj := 132) hA (by kernel_rfl) rfl (R.move rfl) rfl ?_; clear hA a; intro a hA
              refine S.valg (dj := 139) hA (by kernel_rfl) rfl (R.move rfl) rfl ?_; clear hA a; intro a hA
              refine S.valg (dj := 139) hA (by kernel_rfl) rfl (R.tt (R.eql rfl rfl) (by first | decide | simp | omega)) rfl ?_; clear hA a; intro a hA
              refine S.valg (dj := 139) hA (by kernel_rfl) rfl (R.move rfl) rfl ?_; clear hA a; intro a hA
              refine S.valg (dj := 142) hA (by kernel_rfl) rfl (R.move rfl) rfl ?_; clear hA a; intro a hA
              refine S.valg (dj := 142) hA (by kernel_rfl) rfl (R.tt (R.eql rfl rfl) (by first | decide | simp | omega)) rfl ?_; clear hA a; intro a hA
              refine S.valg (dj := 139) hA (by kernel_rfl) rfl (R.pickT rfl rfl) rfl ?_; clear hA a; intro a hA
              refine S.valg (dj := 132) hA (by kernel_rfl) rfl (R.pickF rfl rfl) rfl ?_; clear hA a; intro a hA
              refine S.val hA (R.pickT rfl rfl) rfl ?_; clear hA a; intro a hA
              refine S.val hA (R.assign rfl) rfl ?_; clear hA a; intro a hA
              refine S.done ?_
              replace hA : St 148 [(6, _)] a := hA.sub ((.cons rfl .nil))
              refine Ends.ret1 Tryd.func6 Tryd.results6 hA rfl ?_
              exact ⟨rfl, hM.nilL.below⟩
            ·
              refine Ends.region ?_
              refine S.val hA (R.move rfl) rfl ?_; clear hA a; intro a hA
              refine S.val hA (R.to (v := .string (numS d)) (R.addS rfl rfl (by rw [show (⟨(List.replicate i3 55).toArray⟩ : ByteArray).size = i3 by rw [size_mk, List.length_replicate]]; show 2 + i3 ≤ _; omega)) (congrArg Value.string (by rw [show i3 = d by omega]; exact ba_num d))) rfl ?_; clear hA a; intro a hA
              obtain ⟨X65, hX66⟩ : ∃ X : List Tok, scan ((numS d)) = (X, 0, 0) := (scan_num (m := d) (by omega) (by omega)).2 (by omega)
              refine S.call hA (R.callF Tryd.func13 rfl rfl rfl) rfl (scan_eq ((numS d)) (by rw [numS_size]; omega) X65 0 0 hX66 _ (htab.mem hM OffT.nof)) ?_; clear hA a
              rintro e w23 ⟨a63, c64, rfl, hn⟩
              replace hM : Mem _ _ [own 36 4 (.slice a63 X65.length c64) X65.length (tokv X65), own 36 4 (.slice a54 X56.length c55) X56.length (tokv X56), own 36 4 (.slice a47 X49.length c48) X49.length (tokv X49), pt b10 ((bys (List.replicate N (32 : Int)))) 5] _ := hM.call hn; clear hn
              refine ⟨.tuple #[.slice a63 X65.length c64, .int .i64 0, .int .i64 0], rfl, fun a hA => ?_⟩
              refine S.val hA (R.move rfl) rfl ?_; clear hA a; intro a hA
              refine S.val hA (R.extract (v := .slice a63 X65.length c64) rfl rfl) rfl ?_; clear hA a; intro a hA
              refine S.val hA (R.extract (v := .int .i64 0) rfl rfl) rfl ?_; clear hA a; intro a hA
              refine S.val hA (R.extract (v := .int .i64 0) rfl rfl) rfl ?_; clear hA a; intro a hA
              refine S.val hA (R.assign rfl) rfl ?_; clear hA a; intro a hA
              refine S.val hA (R.assign rfl) rfl ?_; clear hA a; intro a hA
              refine S.val hA (R.assign rfl) rfl ?_; clear hA a; intro a hA
              refine S.done ?_
              replace hA : St 148 [(0, _), (1, _), (2, _), (10, _), (11, _), (17, _), (18, _), (20, _), (21, _)] a := hA.sub ((.cons rfl (.cons rfl (.cons rfl (.cons rfl (.cons rfl (.cons rfl (.cons rfl (.cons rfl (.cons rfl .nil))))))))))
              refine Ends.seq ?_
              refine Ends.region ?_
              refine S.call hA (R.callF Tryd.func12 rfl rfl rfl) rfl (lexes_any _ (htab.mem hM OffT.nof)) ?_; clear hA a
              rintro e w24 ⟨rfl, hb⟩
              replace hM := hM.callB hb; clear hb
              refine ⟨.bool true, rfl, fun a hA => ?_⟩
              refine S.val hA (R.move rfl) rfl ?_; clear hA a; intro a hA
              refine S.valg (dj := 83) hA (by kernel_rfl) rfl (R.move rfl) rfl ?_; clear hA a; intro a hA
              refine S.valg (dj := 83) hA (by kernel_rfl) rfl (R.tt (R.eql rfl rfl) (by first | decide | simp | omega)) rfl ?_; clear hA a; intro a hA
              refine S.val hA (R.pickT rfl rfl) rfl ?_; clear hA a; intro a hA
              refine S.val hA (R.move rfl) rfl ?_; clear hA a; intro a hA
              refine S.valg (dj := 87) hA (by kernel_rfl) rfl (R.move rfl) rfl ?_; clear hA a; intro a hA
              refine S.valg (dj := 87) hA (by kernel_rfl) rfl (R.tt (R.eql rfl rfl) (by first | decide | simp | omega)) rfl ?_; clear hA a; intro a hA
              refine S.valg (dj := 87) hA (by kernel_rfl) rfl (R.move rfl) rfl ?_; clear hA a; intro a hA
              refine S.valg (dj := 87) hA (by kernel_rfl) rfl (R.tt (R.leq rfl rfl) (by omega)) rfl ?_; clear hA a; intro a hA
              refine S.valg (dj := 87) hA (by kernel_rfl) rfl (R.to (v := .bool true) (R.eqlB Tryd.underlying4 rfl rfl) (congrArg Value.bool (by simp))) rfl ?_; clear hA a; intro a hA
              refine S.val hA (R.pickT rfl rfl) rfl ?_; clear hA a; intro a hA
              refine S.val hA (R.move rfl) rfl ?_; clear hA a; intro a hA
              refine S.valg (dj := 94) hA (by kernel_rfl) rfl (R.move rfl) rfl ?_; clear hA a; intro a hA
              refine S.valg (dj := 94) hA (by kernel_rfl) rfl (R.tt (R.eql rfl rfl) (by first | decide | simp | omega)) rfl ?_; clear hA a; intro a hA
              refine S.valg (dj := 94) hA (by kernel_rfl) rfl (R.move rfl) rfl ?_; clear hA a; intro a hA
              refine S.no (dj := 97) hA (by kernel_rfl) rfl rfl rfl ?_; clear hA a; intro a hA
              refine S.no (dj := 97) hA (by kernel_rfl) rfl rfl rfl ?_; clear hA a; intro a hA
              refine S.valg (dj := 94) hA (by kernel_rfl) rfl (R.pickT rfl rfl) rfl ?_; clear hA a; intro a hA
              refine S.val hA (R.pickT rfl rfl) rfl ?_; clear hA a; intro a hA
              refine S.val hA (R.move rfl) rfl ?_; clear hA a; intro a hA
              refine S.valg (dj := 102) hA (by kernel_rfl) rfl (R.move rfl) rfl ?_; clear hA a; intro a hA
              refine S.valg (dj := 102) hA (by kernel_rfl) rfl (R.ff (R.eql rfl rfl) (by first | decide | simp | omega)) rfl ?_; clear hA a; intro a hA
              refine S.valg (dj := 102) hA (by kernel_rfl) rfl (R.move rfl) rfl ?_; clear hA a; intro a hA
              refine S.valg (dj := 102) hA (by kernel_rfl) rfl (R.ff (R.leq rfl rfl) (by omega)) rfl ?_; clear hA a; intro a hA
              refine S.valg (dj := 102) hA (by kernel_rfl) rfl (R.to (v := .bool true) (R.eqlB Tryd.underlying4 rfl rfl) (congrArg Value.bool (by simp))) rfl ?_; clear hA a; intro a hA
              refine S.val hA (R.pickT rfl rfl) rfl ?_; clear hA a; intro a hA
              refine S.val hA (R.move rfl) rfl ?_; clear hA a; intro a hA
              refine S.valg (dj := 109) hA (by kernel_rfl) rfl (R.move rfl) rfl ?_; clear hA a; intro a hA
              refine S.valg (dj := 109) hA (by kernel_rfl) rfl (R.ff (R.eql rfl rfl) (by first | decide | simp | omega)) rfl ?_; clear hA a; intro a hA
              refine S.valg (dj := 109) hA (by kernel_rfl) rfl (R.move rfl) rfl ?_; clear hA a; intro a hA
              refine S.no (dj := 112) hA (by kernel_rfl) rfl rfl rfl ?_; clear hA a; intro a hA
              refine S.no (dj := 112) hA (by kernel_rfl) rfl rfl rfl ?_; clear hA a; intro a hA
              refine S.valg (dj := 109) hA (by kernel_rfl) rfl (R.pickF rfl rfl) rfl ?_; clear hA a; intro a hA
              refine S.valg (dj := 109) hA (by kernel_rfl) rfl (R.move rfl) rfl ?_; clear hA a; intro a hA
              refine S.valg (dj := 116) hA (by kernel_rfl) rfl (R.move rfl) rfl ?_; clear hA a; intro a hA
              refine S.valg (dj := 116) hA (by kernel_rfl) rfl (R.tt (R.eql rfl rfl) (by first | decide | simp | omega)) rfl ?_; clear hA a; intro a hA
              refine S.valg (dj := 116) hA (by kernel_rfl) rfl (R.move rfl) rfl ?_; clear hA a; intro a hA
              refine S.valg (dj := 119) hA (by kernel_rfl) rfl (R.move rfl) rfl ?_; clear hA a; intro a hA
              refine S.valg (dj := 119) hA (by kernel_rfl) rfl (R.tt (R.eql rfl rfl) (by first | decide | simp | omega)) rfl ?_; clear hA a; intro a hA
              refine S.valg (dj := 116) hA (by kernel_rfl) rfl (R.pickT rfl rfl) rfl ?_; clear hA a; intro a hA
              refine S.valg (dj := 109) hA (by kernel_rfl) rfl (R.pickF rfl rfl) rfl ?_; clear hA a; intro a hA
              refine S.val hA (R.pickT rfl rfl) rfl ?_; clear hA a; intro a hA
              refine S.val hA (R.move rfl) rfl ?_; clear hA a; intro a hA
              refine S.valg (dj := 125) hA (by kernel_rfl) rfl (R.move rfl) rfl ?_; clear hA a; intro a hA
              refine S.valg (dj := 125) hA (by kernel_rfl) rfl (R.tt (R.eql rfl rfl) (by first | decide | simp | omega)) rfl ?_; clear hA a; intro a hA
              refine S.valg (dj := 125) hA (by kernel_rfl) rfl (R.move rfl) rfl ?_; clear hA a; intro a hA
              refine S.valg (dj := 125) hA (by kernel_rfl) rfl (R.tt (R.leq rfl rfl) (by omega)) rfl ?_; clear hA a; intro a hA
              refine S.valg (dj := 125) hA (by kernel_rfl) rfl (R.to (v := .bool true) (R.eqlB Tryd.underlying4 rfl rfl) (congrArg Value.bool (by simp))) rfl ?_; clear hA a; intro a hA
              refine S.val hA (R.pickT rfl rfl) rfl ?_; clear hA a; intro a hA
              refine S.val hA (R.move rfl) rfl ?_; clear hA a; intro a hA
              refine S.valg (dj := 132) hA (by kernel_rfl) rfl (R.move rfl) rfl ?_; clear hA a; intro a hA
              refine S.valg (dj := 132) hA (by kernel_rfl) rfl (R.tt (R.eql rfl rfl) (by first | decide | simp | omega)) rfl ?_; clear hA a; intro a hA
              refine S.valg (dj := 132) hA (by kernel_rfl) rfl (R.move rfl) rfl ?_; clear hA a; intro a hA
              refine S.valg (dj := 135) hA (by kernel_rfl) rfl (R.move rfl) rfl ?_; clear hA a; intro a hA
              refine S.valg (dj := 135) hA (by kernel_rfl) rfl (R.tt (R.eql rfl rfl) (by first | decide | simp | omega)) rfl ?_; clear hA a; intro a hA
              refine S.valg (dj := 132) hA (by kernel_rfl) rfl (R.pickT rfl rfl) rfl ?_; clear hA a; intro a hA
              refine S.valg (dj := 132) hA (by kernel_rfl) rfl (R.move rfl) rfl ?_; clear hA a; intro a hA
              refine S.no (dj := 139) hA (by kernel_rfl) rfl rfl rfl ?_; clear hA a; intro a hA
              refine S.no (dj := 139) hA (by kernel_rfl) rfl rfl rfl ?_; clear hA a; intro a hA
              refine S.no (dj := 139) hA (by kernel_rfl) rfl rfl rfl ?_; clear hA a; intro a hA
              refine S.noU (dj := 142) hA (by kernel_rfl) rfl rfl ?_; clear hA a; intro a hA
              refine S.noU (dj := 142) hA (by kernel_rfl) rfl rfl ?_; clear hA a; intro a hA
              refine S.no (dj := 139) hA (by kernel_rfl) rfl rfl rfl ?_; clear hA a; intro a hA
              refine S.valg (dj := 132) hA (by kernel_rfl) rfl (R.pickT rfl rfl) rfl ?_; clear hA a; intro a hA
              refine S.val hA (R.pickT rfl rfl) rfl ?_; clear hA a; intro a hA
              refine S.val hA (R.assign rfl) rfl ?_; clear hA a; intro a hA
              refine S.done ?_
              replace hA : St 148 [(6, _)] a := hA.sub ((.cons rfl .nil))
              refine Ends.ret1 Tryd.func6 Tryd.results6 hA rfl ?_
              exact ⟨rfl, hM.nilL.below⟩
          ·
            refine Ends.region ?_
            refine S.val hA (R.move rfl) rfl ?_; clear hA a; intro a hA
            refine S.val hA (R.to (v := .string (wrdS m)) (R.addS rfl rfl (by rw [show (⟨(List.replicate i2 107).toArray⟩ : ByteArray).size = i2 by rw [size_mk, List.length_replicate]]; show 1 + i2 ≤ _; omega)) (congrArg Value.string (by rw [show i2 = m by omega]; exact ba_wrd m))) rfl ?_; clear hA a; intro a hA
            obtain ⟨X69, hX70⟩ : ∃ X : List Tok, scan ((wrdS m)) = (X, 0, 0) := (scan_wrd (m := m) (by omega) (by omega)).2 (by omega)
            refine S.call hA (R.callF Tryd.func13 rfl rfl rfl) rfl (scan_eq ((wrdS m)) (by rw [wrdS_size]; omega) X69 0 0 hX70 _ (htab.mem hM OffT.nof)) ?_; clear hA a
            rintro e w25 ⟨a67, c68, rfl, hn⟩
            replace hM : Mem _ _ [own 36 4 (.slice a67 X69.length c68) X69.length (tokv X69), own 36 4 (.slice a47 X49.length c48) X49.length (tokv X49), pt b10 ((bys (List.replicate N (32 : Int)))) 5] _ := hM.call hn; clear hn
            refine ⟨.tuple #[.slice a67 X69.length c68, .int .i64 0, .int .i64 0], rfl, fun a hA => ?_⟩
            refine S.val hA (R.move rfl) rfl ?_; clear hA a; intro a hA
            refine S.val hA (R.extract (v := .slice a67 X69.length c68) rfl rfl) rfl ?_; clear hA a; intro a hA
            refine S.val hA (R.extract (v := .int .i64 0) rfl rfl) rfl ?_; clear hA a; intro a hA
            refine S.val hA (R.extract (v := .int .i64 0) rfl rfl) rfl ?_; clear hA a; intro a hA
            refine S.val hA (R.assign rfl) rfl ?_; clear hA a; intro a hA
            refine S.val hA (R.assign rfl) rfl ?_; clear hA a; intro a hA
            refine S.val hA (R.assign rfl) rfl ?_; clear hA a; intro a hA
            refine S.done ?_
            replace hA : St 148 [(0, _), (1, _), (2, _), (10, _), (11, _), (13, _), (17, _), (18, _)] a := hA.sub ((.cons rfl (.cons rfl (.cons rfl (.cons rfl (.cons rfl (.cons rfl (.cons rfl (.cons rfl .nil)))))))))
            refine Ends.seq ?_
            by_cases hs71 : 18 < d
            ·
              refine Ends.region ?_
              refine S.val hA (R.move rfl) rfl ?_; clear hA a; intro a hA
              refine S.val hA (R.to (v := .string (numS d)) (R.addS rfl rfl (by rw [show (⟨(List.replicate i3 55).toArray⟩ : ByteArray).size = i3 by rw [size_mk, List.length_replicate]]; show 2 + i3 ≤ _; omega)) (congrArg Value.string (by rw [show i3 = d by omega]; exact ba_num d))) rfl ?_; clear hA a; intro a hA
              obtain ⟨X74, hX75⟩ : ∃ X : List Tok, scan ((numS d)) = (X, 2, 5) := ⟨_, (scan_num (m := d) (by omega) (by omega)).1 hs71⟩
              refine S.call hA (R.callF Tryd.func13 rfl rfl rfl) rfl (scan_eq ((numS d)) (by rw [numS_size]; omega) X74 2 5 hX75 _ (htab.mem hM OffT.nof)) ?_; clear hA a
              rintro e w26 ⟨a72, c73, rfl, hn⟩
              replace hM : Mem _ _ [own 36 4 (.slice a72 X74.length c73) X74.length (tokv X74), own 36 4 (.slice a67 X69.length c68) X69.length (tokv X69), own 36 4 (.slice a47 X49.length c48) X49.length (tokv X49), pt b10 ((bys (List.replicate N (32 : Int)))) 5] _ := hM.call hn; clear hn
              refine ⟨.tuple #[.slice a72 X74.length c73, .int .i64 2, .int .i64 5], rfl, fun a hA => ?_⟩
              refine S.val hA (R.move rfl) rfl ?_; clear hA a; intro a hA
              refine S.val hA (R.extract (v := .slice a72 X74.length c73) rfl rfl) rfl ?_; clear hA a; intro a hA
              refine S.val hA (R.extract (v := .int .i64 2) rfl rfl) rfl ?_; clear hA a; intro a hA
              refine S.val hA (R.extract (v := .int .i64 5) rfl rfl) rfl ?_; clear hA a; intro a hA
              refine S.val hA (R.assign rfl) rfl ?_; clear hA a; intro a hA
              refine S.val hA (R.assign rfl) rfl ?_; clear hA a; intro a hA
              refine S.val hA (R.assign rfl) rfl ?_; clear hA a; intro a hA
              refine S.done ?_
              replace hA : St 148 [(0, _), (1, _), (2, _), (10, _), (11, _), (17, _), (18, _), (20, _), (21, _)] a := hA.sub ((.cons rfl (.cons rfl (.cons rfl (.cons rfl (.cons rfl (.cons rfl (.cons rfl (.cons rfl (.cons rfl .nil))))))))))
              refine Ends.seq ?_
              refine Ends.region ?_
              refine S.call hA (R.callF Tryd.func12 rfl rfl rfl) rfl (lexes_any _ (htab.mem hM OffT.nof)) ?_; clear hA a
              rintro e w27 ⟨rfl, hb⟩
              replace hM := hM.callB hb; clear hb
              refine ⟨.bool true, rfl, fun a hA => ?_⟩
              refine S.val hA (R.move rfl) rfl ?_; clear hA a; intro a hA
              refine S.valg (dj := 83) hA (by kernel_rfl) rfl (R.move rfl) rfl ?_; clear hA a; intro a hA
              refine S.valg (dj := 83) hA (by kernel_rfl) rfl (R.tt (R.eql rfl rfl) (by first | decide | simp | omega)) rfl ?_; clear hA a; intro a hA
              refine S.val hA (R.pickT rfl rfl) rfl ?_; clear hA a; intro a hA
              refine S.val hA (R.move rfl) rfl ?_; clear hA a; intro a hA
              refine S.valg (dj := 87) hA (by kernel_rfl) rfl (R.move rfl) rfl ?_; clear hA a; intro a hA
              refine S.valg (dj := 87) hA (by kernel_rfl) rfl (R.tt (R.eql rfl rfl) (by first | decide | simp | omega)) rfl ?_; clear hA a; intro a hA
              refine S.valg (dj := 87) hA (by kernel_rfl) rfl (R.move rfl) rfl ?_; clear hA a; intro a hA
              refine S.valg (dj := 87) hA (by kernel_rfl) rfl (R.tt (R.leq rfl rfl) (by omega)) rfl ?_; clear hA a; intro a hA
              refine S.valg (dj := 87) hA (by kernel_rfl) rfl (R.to (v := .bool true) (R.eqlB Tryd.underlying4 rfl rfl) (congrArg Value.bool (by simp))) rfl ?_; clear hA a; intro a hA
              refine S.val hA (R.pickT rfl rfl) rfl ?_; clear hA a; intro a hA
              refine S.val hA (R.move rfl) rfl ?_; clear hA a; intro a hA
              refine S.valg (dj := 94) hA (by kernel_rfl) rfl (R.move rfl) rfl ?_; clear hA a; intro a hA
              refine S.valg (dj := 94) hA (by kernel_rfl) rfl (R.tt (R.eql rfl rfl) (by first | decide | simp | omega)) rfl ?_; clear hA a; intro a hA
              refine S.valg (dj := 94) hA (by kernel_rfl) rfl (R.move rfl) rfl ?_; clear hA a; intro a hA
              refine S.no (dj := 97) hA (by kernel_rfl) rfl rfl rfl ?_; clear hA a; intro a hA
              refine S.no (dj := 97) hA (by kernel_rfl) rfl rfl rfl ?_; clear hA a; intro a hA
              refine S.valg (dj := 94) hA (by kernel_rfl) rfl (R.pickT rfl rfl) rfl ?_; clear hA a; intro a hA
              refine S.val hA (R.pickT rfl rfl) rfl ?_; clear hA a; intro a hA
              refine S.val hA (R.move rfl) rfl ?_; clear hA a; intro a hA
              refine S.valg (dj := 102) hA (by kernel_rfl) rfl (R.move rfl) rfl ?_; clear hA a; intro a hA
              refine S.valg (dj := 102) hA (by kernel_rfl) rfl (R.tt (R.eql rfl rfl) (by first | decide | simp | omega)) rfl ?_; clear hA a; intro a hA
              refine S.valg (dj := 102) hA (by kernel_rfl) rfl (R.move rfl) rfl ?_; clear hA a; intro a hA
              refine S.valg (dj := 102) hA (by kernel_rfl) rfl (R.tt (R.leq rfl rfl) (by omega)) rfl ?_; clear hA a; intro a hA
              refine S.valg (dj := 102) hA (by kernel_rfl) rfl (R.to (v := .bool true) (R.eqlB Tryd.underlying4 rfl rfl) (congrArg Value.bool (by simp))) rfl ?_; clear hA a; intro a hA
              refine S.val hA (R.pickT rfl rfl) rfl ?_; clear hA a; intro a hA
              refine S.val hA (R.move rfl) rfl ?_; clear hA a; intro a hA
              refine S.valg (dj := 109) hA (by kernel_rfl) rfl (R.move rfl) rfl ?_; clear hA a; intro a hA
              refine S.valg (dj := 109) hA (by kernel_rfl) rfl (R.tt (R.eql rfl rfl) (by first | decide | simp | omega)) rfl ?_; clear hA a; intro a hA
              refine S.valg (dj := 109) hA (by kernel_rfl) rfl (R.move rfl) rfl ?_; clear hA a; intro a hA
              refine S.valg (dj := 112) hA (by kernel_rfl) rfl (R.move rfl) rfl ?_; clear hA a; intro a hA
              refine S.valg (dj := 112) hA (by kernel_rfl) rfl (R.tt (R.eql rfl rfl) (by first | decide | simp | omega)) rfl ?_; clear hA a; intro a hA
              refine S.valg (dj := 109) hA (by kernel_rfl) rfl (R.pickT rfl rfl) rfl ?_; clear hA a; intro a hA
              refine S.valg (dj := 109) hA (by kernel_rfl) rfl (R.move rfl) rfl ?_; clear hA a; intro a hA
              refine S.no (dj := 116) hA (by kernel_rfl) rfl rfl rfl ?_; clear hA a; intro a hA
              refine S.no (dj := 116) hA (by kernel_rfl) rfl rfl rfl ?_; clear hA a; intro a hA
              refine S.no (dj := 116) hA (by kernel_rfl) rfl rfl rfl ?_; clear hA a; intro a hA
              refine S.noU (dj := 119) hA (by kernel_rfl) rfl rfl ?_; clear hA a; intro a hA
              refine S.noU (dj := 119) hA (by kernel_rfl) rfl rfl ?_; clear hA a; intro a hA
              refine S.no (dj := 116) hA (by kernel_rfl) rfl rfl rfl ?_; clear hA a; intro a hA
              refine S.valg (dj := 109) hA (by kernel_rfl) rfl (R.pickT rfl rfl) rfl ?_; clear hA a; intro a hA
              refine S.val hA (R.pickT rfl rfl) rfl ?_; clear hA a; intro a hA
              refine S.val hA (R.move rfl) rfl ?_; clear hA a; intro a hA
              refine S.valg (dj := 125) hA (by kernel_rfl) rfl (R.move rfl) rfl ?_; clear hA a; intro a hA
              refine S.valg (dj := 125) hA (by kernel_rfl) rfl (R.ff (R.eql rfl rfl) (by first | decide | simp | omega)) rfl ?_; clear hA a; intro a hA
              refine S.valg (dj := 125) hA (by kernel_rfl) rfl (R.move rfl) rfl ?_; clear hA a; intro a hA
              refine S.valg (dj := 125) hA (by kernel_rfl) rfl (R.ff (R.leq rfl rfl) (by omega)) rfl ?_; clear hA a; intro a hA
              refine S.valg (dj := 125) hA (by kernel_rfl) rfl (R.to (v := .bool true) (R.eqlB Tryd.underlying4 rfl rfl) (congrArg Value.bool (by simp))) rfl ?_; clear hA a; intro a hA
              refine S.val hA (R.pickT rfl rfl) rfl ?_; clear hA a; intro a hA
              refine S.val hA (R.move rfl) rfl ?_; clear hA a; intro a hA
              refine S.valg (dj := 132) hA (by kernel_rfl) rfl (R.move rfl) rfl ?_; clear hA a; intro a hA
              refine S.valg (dj := 132) hA (by kernel_rfl) rfl (R.ff (R.eql rfl rfl) (by first | decide | simp | omega)) rfl ?_; clear hA a; intro a hA
              refine S.valg (dj := 132) hA (by kernel_rfl) rfl (R.move rfl) rfl ?_; clear hA a; intro a hA
              refine S.no (dj := 135) hA (by kernel_rfl) rfl rfl rfl ?_; clear hA a; intro a hA
              refine S.no (dj := 135) hA (by kernel_rfl) rfl rfl rfl ?_; clear hA a; intro a hA
              refine S.valg (dj := 132) hA (by kernel_rfl) rfl (R.pickF rfl rfl) rfl ?_; clear hA a; intro a hA
              refine S.valg (dj := 132) hA (by kernel_rfl) rfl (R.move rfl) rfl ?_; clear hA a; intro a hA
              refine S.valg (dj := 139) hA (by kernel_rfl) rfl (R.move rfl) rfl ?_; clear hA a; intro a hA
              refine S.valg (dj := 139) hA (by kernel_rfl) rfl (R.tt (R.eql rfl rfl) (by first | decide | simp | omega)) rfl ?_; clear hA a; intro a hA
              refine S.valg (dj := 139) hA (by kernel_rfl) rfl (R.move rfl) rfl ?_; clear hA a; intro a hA
              refine S.valg (dj := 142) hA (by kernel_rfl) rfl (R.move rfl) rfl ?_; clear hA a; intro a hA
              refine S.valg (dj := 142) hA (by kernel_rfl) rfl (R.tt (R.eql rfl rfl) (by first | decide | simp | omega)) rfl ?_; clear hA a; intro a hA
              refine S.valg (dj := 139) hA (by kernel_rfl) rfl (R.pickT rfl rfl) rfl ?_; clear hA a; intro a hA
              refine S.valg (dj := 132) hA (by kernel_rfl) rfl (R.pickF rfl rfl) rfl ?_; clear hA a; intro a hA
              refine S.val hA (R.pickT rfl rfl) rfl ?_; clear hA a; intro a hA
              refine S.val hA (R.assign rfl) rfl ?_; clear hA a; intro a hA
              refine S.done ?_
              replace hA : St 148 [(6, _)] a := hA.sub ((.cons rfl .nil))
              refine Ends.ret1 Tryd.func6 Tryd.results6 hA rfl ?_
              exact ⟨rfl, hM.nilL.below⟩
            ·
              refine Ends.region ?_
              refine S.val hA (R.move rfl) rfl ?_; clear hA a; intro a hA
              refine S.val hA (R.to (v := .string (numS d)) (R.addS rfl rfl (by rw [show (⟨(List.replicate i3 55).toArray⟩ : ByteArray).size = i3 by rw [size_mk, List.length_replicate]]; show 2 + i3 ≤ _; omega)) (congrArg Value.string (by rw [show i3 = d by omega]; exact ba_num d))) rfl ?_; clear hA a; intro a hA
              obtain ⟨X78, hX79⟩ : ∃ X : List Tok, scan ((numS d)) = (X, 0, 0) := (scan_num (m := d) (by omega) (by omega)).2 (by omega)
              refine S.call hA (R.callF Tryd.func13 rfl rfl rfl) rfl (scan_eq ((numS d)) (by rw [numS_size]; omega) X78 0 0 hX79 _ (htab.mem hM OffT.nof)) ?_; clear hA a
              rintro e w28 ⟨a76, c77, rfl, hn⟩
              replace hM : Mem _ _ [own 36 4 (.slice a76 X78.length c77) X78.length (tokv X78), own 36 4 (.slice a67 X69.length c68) X69.length (tokv X69), own 36 4 (.slice a47 X49.length c48) X49.length (tokv X49), pt b10 ((bys (List.replicate N (32 : Int)))) 5] _ := hM.call hn; clear hn
              refine ⟨.tuple #[.slice a76 X78.length c77, .int .i64 0, .int .i64 0], rfl, fun a hA => ?_⟩
              refine S.val hA (R.move rfl) rfl ?_; clear hA a; intro a hA
              refine S.val hA (R.extract (v := .slice a76 X78.length c77) rfl rfl) rfl ?_; clear hA a; intro a hA
              refine S.val hA (R.extract (v := .int .i64 0) rfl rfl) rfl ?_; clear hA a; intro a hA
              refine S.val hA (R.extract (v := .int .i64 0) rfl rfl) rfl ?_; clear hA a; intro a hA
              refine S.val hA (R.assign rfl) rfl ?_; clear hA a; intro a hA
              refine S.val hA (R.assign rfl) rfl ?_; clear hA a; intro a hA
              refine S.val hA (R.assign rfl) rfl ?_; clear hA a; intro a hA
              refine S.done ?_
              replace hA : St 148 [(0, _), (1, _), (2, _), (10, _), (11, _), (17, _), (18, _), (20, _), (21, _)] a := hA.sub ((.cons rfl (.cons rfl (.cons rfl (.cons rfl (.cons rfl (.cons rfl (.cons rfl (.cons rfl (.cons rfl .nil))))))))))
              refine Ends.seq ?_
              refine Ends.region ?_
              refine S.call hA (R.callF Tryd.func12 rfl rfl rfl) rfl (lexes_any _ (htab.mem hM OffT.nof)) ?_; clear hA a
              rintro e w29 ⟨rfl, hb⟩
              replace hM := hM.callB hb; clear hb
              refine ⟨.bool true, rfl, fun a hA => ?_⟩
              refine S.val hA (R.move rfl) rfl ?_; clear hA a; intro a hA
              refine S.valg (dj := 83) hA (by kernel_rfl) rfl (R.move rfl) rfl ?_; clear hA a; intro a hA
              refine S.valg (dj := 83) hA (by kernel_rfl) rfl (R.tt (R.eql rfl rfl) (by first | decide | simp | omega)) rfl ?_; clear hA a; intro a hA
              refine S.val hA (R.pickT rfl rfl) rfl ?_; clear hA a; intro a hA
              refine S.val hA (R.move rfl) rfl ?_; clear hA a; intro a hA
              refine S.valg (dj := 87) hA (by kernel_rfl) rfl (R.move rfl) rfl ?_; clear hA a; intro a hA
              refine S.valg (dj := 87) hA (by kernel_rfl) rfl (R.tt (R.eql rfl rfl) (by first | decide | simp | omega)) rfl ?_; clear hA a; intro a hA
              refine S.valg (dj := 87) hA (by kernel_rfl) rfl (R.move rfl) rfl ?_; clear hA a; intro a hA
              refine S.valg (dj := 87) hA (by kernel_rfl) rfl (R.tt (R.leq rfl rfl) (by omega)) rfl ?_; clear hA a; intro a hA
              refine S.valg (dj := 87) hA (by kernel_rfl) rfl (R.to (v := .bool true) (R.eqlB Tryd.underlying4 rfl rfl) (congrArg Value.bool (by simp))) rfl ?_; clear hA a; intro a hA
              refine S.val hA (R.pickT rfl rfl) rfl ?_; clear hA a; intro a hA
              refine S.val hA (R.move rfl) rfl ?_; clear hA a; intro a hA
              refine S.valg (dj := 94) hA (by kernel_rfl) rfl (R.move rfl) rfl ?_; clear hA a; intro a hA
              refine S.valg (dj := 94) hA (by kernel_rfl) rfl (R.tt (R.eql rfl rfl) (by first | decide | simp | omega)) rfl ?_; clear hA a; intro a hA
              refine S.valg (dj := 94) hA (by kernel_rfl) rfl (R.move rfl) rfl ?_; clear hA a; intro a hA
              refine S.no (dj := 97) hA (by kernel_rfl) rfl rfl rfl ?_; clear hA a; intro a hA
              refine S.no (dj := 97) hA (by kernel_rfl) rfl rfl rfl ?_; clear hA a; intro a hA
              refine S.valg (dj := 94) hA (by kernel_rfl) rfl (R.pickT rfl rfl) rfl ?_; clear hA a; intro a hA
              refine S.val hA (R.pickT rfl rfl) rfl ?_; clear hA a; intro a hA
              refine S.val hA (R.move rfl) rfl ?_; clear hA a; intro a hA
              refine S.valg (dj := 102) hA (by kernel_rfl) rfl (R.move rfl) rfl ?_; clear hA a; intro a hA
              refine S.valg (dj := 102) hA (by kernel_rfl) rfl (R.tt (R.eql rfl rfl) (by first | decide | simp | omega)) rfl ?_; clear hA a; intro a hA
              refine S.valg (dj := 102) hA (by kernel_rfl) rfl (R.move rfl) rfl ?_; clear hA a; intro a hA
              refine S.valg (dj := 102) hA (by kernel_rfl) rfl (R.tt (R.leq rfl rfl) (by omega)) rfl ?_; clear hA a; intro a hA
              refine S.valg (dj := 102) hA (by kernel_rfl) rfl (R.to (v := .bool true) (R.eqlB Tryd.underlying4 rfl rfl) (congrArg Value.bool (by simp))) rfl ?_; clear hA a; intro a hA
              refine S.val hA (R.pickT rfl rfl) rfl ?_; clear hA a; intro a hA
              refine S.val hA (R.move rfl) rfl ?_; clear hA a; intro a hA
              refine S.valg (dj := 109) hA (by kernel_rfl) rfl (R.move rfl) rfl ?_; clear hA a; intro a hA
              refine S.valg (dj := 109) hA (by kernel_rfl) rfl (R.tt (R.eql rfl rfl) (by first | decide | simp | omega)) rfl ?_; clear hA a; intro a hA
              refine S.valg (dj := 109) hA (by kernel_rfl) rfl (R.move rfl) rfl ?_; clear hA a; intro a hA
              refine S.valg (dj := 112) hA (by kernel_rfl) rfl (R.move rfl) rfl ?_; clear hA a; intro a hA
              refine S.valg (dj := 112) hA (by kernel_rfl) rfl (R.tt (R.eql rfl rfl) (by first | decide | simp | omega)) rfl ?_; clear hA a; intro a hA
              refine S.valg (dj := 109) hA (by kernel_rfl) rfl (R.pickT rfl rfl) rfl ?_; clear hA a; intro a hA
              refine S.valg (dj := 109) hA (by kernel_rfl) rfl (R.move rfl) rfl ?_; clear hA a; intro a hA
              refine S.no (dj := 116) hA (by kernel_rfl) rfl rfl rfl ?_; clear hA a; intro a hA
              refine S.no (dj := 116) hA (by kernel_rfl) rfl rfl rfl ?_; clear hA a; intro a hA
              refine S.no (dj := 116) hA (by kernel_rfl) rfl rfl rfl ?_; clear hA a; intro a hA
              refine S.noU (dj := 119) hA (by kernel_rfl) rfl rfl ?_; clear hA a; intro a hA
              refine S.noU (dj := 119) hA (by kernel_rfl) rfl rfl ?_; clear hA a; intro a hA
              refine S.no (dj := 116) hA (by kernel_rfl) rfl rfl rfl ?_; clear hA a; intro a hA
              refine S.valg (dj := 109) hA (by kernel_rfl) rfl (R.pickT rfl rfl) rfl ?_; clear hA a; intro a hA
              refine S.val hA (R.pickT rfl rfl) rfl ?_; clear hA a; intro a hA
              refine S.val hA (R.move rfl) rfl ?_; clear hA a; intro a hA
              refine S.valg (dj := 125) hA (by kernel_rfl) rfl (R.move rfl) rfl ?_; clear hA a; intro a hA
              refine S.valg (dj := 125) hA (by kernel_rfl) rfl (R.tt (R.eql rfl rfl) (by first | decide | simp | omega)) rfl ?_; clear hA a; intro a hA
              refine S.valg (dj := 125) hA (by kernel_rfl) rfl (R.move rfl) rfl ?_; clear hA a; intro a hA
              refine S.valg (dj := 125) hA (by kernel_rfl) rfl (R.tt (R.leq rfl rfl) (by omega)) rfl ?_; clear hA a; intro a hA
              refine S.valg (dj := 125) hA (by kernel_rfl) rfl (R.to (v := .bool true) (R.eqlB Tryd.underlying4 rfl rfl) (congrArg Value.bool (by simp))) rfl ?_; clear hA a; intro a hA
              refine S.val hA (R.pickT rfl rfl) rfl ?_; clear hA a; intro a hA
              refine S.val hA (R.move rfl) rfl ?_; clear hA a; intro a hA
              refine S.valg (dj := 132) hA (by kernel_rfl) rfl (R.move rfl) rfl ?_; clear hA a; intro a hA
              refine S.valg (dj := 132) hA (by kernel_rfl) rfl (R.tt (R.eql rfl rfl) (by first | decide | simp | omega)) rfl ?_; clear hA a; intro a hA
              refine S.valg (dj := 132) hA (by kernel_rfl) rfl (R.move rfl) rfl ?_; clear hA a; intro a hA
              refine S.valg (dj := 135) hA (by kernel_rfl) rfl (R.move rfl) rfl ?_; clear hA a; intro a hA
              refine S.valg (dj := 135) hA (by kernel_rfl) rfl (R.tt (R.eql rfl rfl) (by first | decide | simp | omega)) rfl ?_; clear hA a; intro a hA
              refine S.valg (dj := 132) hA (by kernel_rfl) rfl (R.pickT rfl rfl) rfl ?_; clear hA a; intro a hA
              refine S.valg (dj := 132) hA (by kernel_rfl) rfl (R.move rfl) rfl ?_; clear hA a; intro a hA
              refine S.no (dj := 139) hA (by kernel_rfl) rfl rfl rfl ?_; clear hA a; intro a hA
              refine S.no (dj := 139) hA (by kernel_rfl) rfl rfl rfl ?_; clear hA a; intro a hA
              refine S.no (dj := 139) hA (by kernel_rfl) rfl rfl rfl ?_; clear hA a; intro a hA
              refine S.noU (dj := 142) hA (by kernel_rfl) rfl rfl ?_; clear hA a; intro a hA
              refine S.noU (dj := 142) hA (by kernel_rfl) rfl rfl ?_; clear hA a; intro a hA
              refine S.no (dj := 139) hA (by kernel_rfl) rfl rfl rfl ?_; clear hA a; intro a hA
              refine S.valg (dj := 132) hA (by kernel_rfl) rfl (R.pickT rfl rfl) rfl ?_; clear hA a; intro a hA
              refine S.val hA (R.pickT rfl rfl) rfl ?_; clear hA a; intro a hA
              refine S.val hA (R.assign rfl) rfl ?_; clear hA a; intro a hA
              refine S.done ?_
              replace hA : St 148 [(6, _)] a := hA.sub ((.cons rfl .nil))
              refine Ends.ret1 Tryd.func6 Tryd.results6 hA rfl ?_
              exact ⟨rfl, hM.nilL.below⟩
theorem lexBounds_any (n0 n1 n2 : Int) (_h0 : (Lit.int .i64 n0).wf = true) (_h1 : (Lit.int .i64 n1).wf = true) (_h2 : (Lit.int .i64 n2).wf = true) (w : World) (htab : U8T w) : Calls Tryd.prog 6 #[.int .i64 n0, .int .i64 n1, .int .i64 n2] w fun e w' => e = .returned (.bool true) ∧ Below w.heap.size w w' := lexBounds_w n0 n1 n2 w htab
end Go.Proofs.YtdbbigjoloinpaaDoor
