/-
  The names of the kinds.
-/
import Derived.Test.YtakfcekfmdjklaaDoorInsE
namespace Go.Proofs.YtakfcekfmdjklaaDoor
open Go.RowKit
theorem name_none {k : Int} (h : ¬ (1 ≤ k ∧ k ≤ 3)) (w : World) : Calls Tryd.prog 23 #[.int .i64 k] w fun e w' => e = .returned (.string (bs [])) ∧ Below w.heap.size w w' := by
  have e : nameB k = [] := by unfold nameB; (repeat' split) <;> first | (exfalso; omega) | rfl
  have := name05 k w
  rwa [e] at this
set_option maxRecDepth 100000 in
set_option maxHeartbeats 400000 in
theorem instNames_w (k : Int) (w : World) (htab : Lib.TabIs Tryd.prog w "internal/strconv.uint64pow10" .u64 Lib.pow10Tab) :
    Calls Tryd.prog 5 #[.int .i64 k] w fun e w' => e = .returned (.bool true) ∧ Below w.heap.size w w' := by
  have hbs := Below.refl (B := w.heap.size) w
  have hM := Mem.start w
  refine Calls.of_ends (vs := [.int .i64 k]) Tryd.func5 rfl Tryd.ntmps5 rfl ?_
  intro a hA
  replace hA : St 22 [(0, _)] a := hA
  refine Ends.seq ?_
  refine Ends.region ?_
  refine S.val hA (R.assign rfl) rfl ?_; clear hA a; intro a hA
  refine S.done ?_
  replace hA : St 22 [(0, _)] a := hA.sub ((.cons rfl .nil))
  refine Ends.seq ?_
  refine Ends.region ?_
  refine S.val hA (R.assign rfl) rfl ?_; clear hA a; intro a hA
  refine S.done ?_
  replace hA : St 22 [(0, _), (3, _)] a := hA.sub ((.cons rfl (.cons rfl .nil)))
  refine Ends.seq ?_
  refine Ends.seq ?_
  refine Ends.cut (fun (a : Act) (wv : World) => St 22 [(0, .int .i64 k), (3, .string (⟨#[]⟩)), (9, .bool (decide ((1 ≤ k ∧ k ≤ 3))))] a ∧ Mem w nof [] wv) ?_ (fun k2 hJ => ?_)
  · clear hA hM a; rintro a w1 ⟨hA, hM⟩
    refine Ends.ite hA rfl (fun hc1 => ?_) (fun hc1 => ?_)
    ·
      have hk := hc1
      by_cases hs2 : k = 1
      ·
        rw [hs2] at hA
        refine Ends.region ?_
        refine S.buildSl (cells := #[.string (⟨#[75, 78, 65, 80, 83, 65, 67, 75]⟩), .string (⟨#[65, 83, 83, 73, 71, 78, 77, 69, 78, 84]⟩), .string (⟨#[84, 83, 80]⟩)]) hA hM Tryd.underlying34 info9 rfl rfl rfl rfl (by kernel_rfl) rfl ?_; clear hA hM a; intro b3 w2 hb4 hM a hA
        replace hM : Mem _ _ [pt b3 #[.string (⟨#[75, 78, 65, 80, 83, 65, 67, 75]⟩), .string (⟨#[65, 83, 83, 73, 71, 78, 77, 69, 78, 84]⟩), .string (⟨#[84, 83, 80]⟩)] 9] _ := hM
        refine S.val hA (R.move rfl) rfl ?_; clear hA a; intro a hA
        refine S.val hA (R.subI rfl rfl (r := 0) rfl (by omega)) rfl ?_; clear hA a; intro a hA
        refine S.val hA (R.indexAddr (q := 0) sl34 rfl rfl (by omega) (rfl)) rfl ?_; clear hA a; intro a hA
        refine S.val hA (R.load sz9 rfl (hM.cell (k := 0) rfl rfl)) rfl ?_; clear hA a; intro a hA
        refine S.val hA (R.assign rfl) rfl ?_; clear hA a; intro a hA
        refine S.done ?_
        replace hA : St 22 [(0, _), (3, _)] a := hA.sub ((.cons rfl (.cons rfl .nil)))
        refine Ends.seq ?_
        refine Ends.region ?_
        refine S.call hA (R.callF Tryd.func17 rfl rfl rfl) rfl (insts_any _ (tab_below htab (Mem.trans0 hbs hM.nilL))) ?_; clear hA a
        rintro e w3 ⟨rfl, hb⟩
        replace hM := hM.callB hb; clear hb
        refine ⟨.bool true, rfl, fun a hA => ?_⟩
        refine S.val hA (R.move rfl) rfl ?_; clear hA a; intro a hA
        refine S.valg (dj := 16) hA (by kernel_rfl) rfl (R.move rfl) rfl ?_; clear hA a; intro a hA
        refine S.callg (dj := 16) hA (by kernel_rfl) rfl (R.callF Tryd.func23 rfl rfl rfl) rfl (name05 1 _) ?_; clear hA a
        rintro e w4 ⟨rfl, hb⟩
        replace hM := hM.callB hb; clear hb
        refine ⟨.string ((bs (([75, 78, 65, 80, 83, 65, 67, 75] : List UInt8)))), rfl, fun a hA => ?_⟩
        refine S.valg (dj := 16) hA (by kernel_rfl) rfl (R.move rfl) rfl ?_; clear hA a; intro a hA
        refine S.valg (dj := 16) hA (by kernel_rfl) rfl (R.tt (R.eqlStr rfl rfl) (rfl)) rfl ?_; clear hA a; intro a hA
        refine S.val hA (R.pickT rfl rfl) rfl ?_; clear hA a; intro a hA
        refine S.val hA (R.assign rfl) rfl ?_; clear hA a; intro a hA
        refine S.done ?_
        replace hA : St 22 [(2, _)] a := hA.sub ((.cons rfl .nil))
        refine Ends.ret1 Tryd.func5 Tryd.results5 hA rfl ?_
        exact ⟨rfl, Mem.trans0 hbs hM.nilL⟩
      ·
        by_cases hs5 : k = 2
        ·
          rw [hs5] at hA
          refine Ends.region ?_
          refine S.buildSl (cells := #[.string (⟨#[75, 78, 65, 80, 83, 65, 67, 75]⟩), .string (⟨#[65, 83, 83, 73, 71, 78, 77, 69, 78, 84]⟩), .string (⟨#[84, 83, 80]⟩)]) hA hM Tryd.underlying34 info9 rfl rfl rfl rfl (by kernel_rfl) rfl ?_; clear hA hM a; intro b6 w5 hb7 hM a hA
          replace hM : Mem _ _ [pt b6 #[.string (⟨#[75, 78, 65, 80, 83, 65, 67, 75]⟩), .string (⟨#[65, 83, 83, 73, 71, 78, 77, 69, 78, 84]⟩), .string (⟨#[84, 83, 80]⟩)] 9] _ := hM
          refine S.val hA (R.move rfl) rfl ?_; clear hA a; intro a hA
          refine S.val hA (R.subI rfl rfl (r := 1) rfl (by omega)) rfl ?_; clear hA a; intro a hA
          refine S.val hA (R.indexAddr (q := 1) sl34 rfl rfl (by omega) (rfl)) rfl ?_; clear hA a; intro a hA
          refine S.val hA (R.load sz9 rfl (hM.cell (k := 0) rfl rfl)) rfl ?_; clear hA a; intro a hA
          refine S.val hA (R.assign rfl) rfl ?_; clear hA a; intro a hA
          refine S.done ?_
          replace hA : St 22 [(0, _), (3, _)] a := hA.sub ((.cons rfl (.cons rfl .nil)))
          refine Ends.seq ?_
          refine Ends.region ?_
          refine S.call hA (R.callF Tryd.func17 rfl rfl rfl) rfl (insts_any _ (tab_below htab (Mem.trans0 hbs hM.nilL))) ?_; clear hA a
          rintro e w6 ⟨rfl, hb⟩
          replace hM := hM.callB hb; clear hb
          refine ⟨.bool true, rfl, fun a hA => ?_⟩
          refine S.val hA (R.move rfl) rfl ?_; clear hA a; intro a hA
          refine S.valg (dj := 16) hA (by kernel_rfl) rfl (R.move rfl) rfl ?_; clear hA a; intro a hA
          refine S.callg (dj := 16) hA (by kernel_rfl) rfl (R.callF Tryd.func23 rfl rfl rfl) rfl (name05 2 _) ?_; clear hA a
          rintro e w7 ⟨rfl, hb⟩
          replace hM := hM.callB hb; clear hb
          refine ⟨.string ((bs (([65, 83, 83, 73, 71, 78, 77, 69, 78, 84] : List UInt8)))), rfl, fun a hA => ?_⟩
          refine S.valg (dj := 16) hA (by kernel_rfl) rfl (R.move rfl) rfl ?_; clear hA a; intro a hA
          refine S.valg (dj := 16) hA (by kernel_rfl) rfl (R.tt (R.eqlStr rfl rfl) (rfl)) rfl ?_; clear hA a; intro a hA
          refine S.val hA (R.pickT rfl rfl) rfl ?_; clear hA a; intro a hA
          refine S.val hA (R.assign rfl) rfl ?_; clear hA a; intro a hA
          refine S.done ?_
          replace hA : St 22 [(2, _)] a := hA.sub ((.cons rfl .nil))
          refine Ends.ret1 Tryd.func5 Tryd.results5 hA rfl ?_
          exact ⟨rfl, Mem.trans0 hbs hM.nilL⟩
        ·
          rw [show k = 3 by omega] at hA
          refine Ends.region ?_
          refine S.buildSl (cells := #[.string (⟨#[75, 78, 65, 80, 83, 65, 67, 75]⟩), .string (⟨#[65, 83, 83, 73, 71, 78, 77, 69, 78, 84]⟩), .string (⟨#[84, 83, 80]⟩)]) hA hM Tryd.underlying34 info9 rfl rfl rfl rfl (by kernel_rfl) rfl ?_; clear hA hM a; intro b8 w8 hb9 hM a hA
          replace hM : Mem _ _ [pt b8 #[.string (⟨#[75, 78, 65, 80, 83, 65, 67, 75]⟩), .string (⟨#[65, 83, 83, 73, 71, 78, 77, 69, 78, 84]⟩), .string (⟨#[84, 83, 80]⟩)] 9] _ := hM
          refine S.val hA (R.move rfl) rfl ?_; clear hA a; intro a hA
          refine S.val hA (R.subI rfl rfl (r := 2) rfl (by omega)) rfl ?_; clear hA a; intro a hA
          refine S.val hA (R.indexAddr (q := 2) sl34 rfl rfl (by omega) (rfl)) rfl ?_; clear hA a; intro a hA
          refine S.val hA (R.load sz9 rfl (hM.cell (k := 0) rfl rfl)) rfl ?_; clear hA a; intro a hA
          refine S.val hA (R.assign rfl) rfl ?_; clear hA a; intro a hA
          refine S.done ?_
          replace hA : St 22 [(0, _), (3, _)] a := hA.sub ((.cons rfl (.cons rfl .nil)))
          refine Ends.seq ?_
          refine Ends.region ?_
          refine S.call hA (R.callF Tryd.func17 rfl rfl rfl) rfl (insts_any _ (tab_below htab (Mem.trans0 hbs hM.nilL))) ?_; clear hA a
          rintro e w9 ⟨rfl, hb⟩
          replace hM := hM.callB hb; clear hb
          refine ⟨.bool true, rfl, fun a hA => ?_⟩
          refine S.val hA (R.move rfl) rfl ?_; clear hA a; intro a hA
          refine S.valg (dj := 16) hA (by kernel_rfl) rfl (R.move rfl) rfl ?_; clear hA a; intro a hA
          refine S.callg (dj := 16) hA (by kernel_rfl) rfl (R.callF Tryd.func23 rfl rfl rfl) rfl (name05 3 _) ?_; clear hA a
          rintro e w10 ⟨rfl, hb⟩
          replace hM := hM.callB hb; clear hb
          refine ⟨.string ((bs (([84, 83, 80] : List UInt8)))), rfl, fun a hA => ?_⟩
          refine S.valg (dj := 16) hA (by kernel_rfl) rfl (R.move rfl) rfl ?_; clear hA a; intro a hA
          refine S.valg (dj := 16) hA (by kernel_rfl) rfl (R.tt (R.eqlStr rfl rfl) (rfl)) rfl ?_; clear hA a; intro a hA
          refine S.val hA (R.pickT rfl rfl) rfl ?_; clear hA a; intro a hA
          refine S.val hA (R.assign rfl) rfl ?_; clear hA a; intro a hA
          refine S.done ?_
          replace hA : St 22 [(2, _)] a := hA.sub ((.cons rfl .nil))
          refine Ends.ret1 Tryd.func5 Tryd.results5 hA rfl ?_
          exact ⟨rfl, Mem.trans0 hbs hM.nilL⟩
    ·
      have hk := hc1
      refine Ends.skip ?_
      refine Ends.seq ?_
      refine Ends.region ?_
      refine S.call hA (R.callF Tryd.func17 rfl rfl rfl) rfl (insts_any _ (tab_below htab (Mem.trans0 hbs hM.nilL))) ?_; clear hA a
      rintro e w11 ⟨rfl, hb⟩
      replace hM := hM.callB hb; clear hb
      refine ⟨.bool true, rfl, fun a hA => ?_⟩
      refine S.val hA (R.move rfl) rfl ?_; clear hA a; intro a hA
      refine S.valg (dj := 16) hA (by kernel_rfl) rfl (R.move rfl) rfl ?_; clear hA a; intro a hA
      refine S.callg (dj := 16) hA (by kernel_rfl) rfl (R.callF Tryd.func23 rfl rfl rfl) rfl (name_none (by omega) _) ?_; clear hA a
      rintro e w12 ⟨rfl, hb⟩
      replace hM := hM.callB hb; clear hb
      refine ⟨.string ((bs (([] : List UInt8)))), rfl, fun a hA => ?_⟩
      refine S.valg (dj := 16) hA (by kernel_rfl) rfl (R.move rfl) rfl ?_; clear hA a; intro a hA
      refine S.valg (dj := 16) hA (by kernel_rfl) rfl (R.tt (R.eqlStr rfl rfl) (rfl)) rfl ?_; clear hA a; intro a hA
      refine S.val hA (R.pickT rfl rfl) rfl ?_; clear hA a; intro a hA
      refine S.val hA (R.assign rfl) rfl ?_; clear hA a; intro a hA
      refine S.done ?_
      replace hA : St 22 [(2, _)] a := hA.sub ((.cons rfl .nil))
      refine Ends.ret1 Tryd.func5 Tryd.results5 hA rfl ?_
      exact ⟨rfl, Mem.trans0 hbs hM.nilL⟩
  ·
    refine Ends.region ?_
    refine S.val hA (R.move rfl) rfl ?_; clear hA a; intro a hA
    refine S.val hA (R.geq rfl rfl) rfl ?_; clear hA a; intro a hA
    refine S.val hA (R.move rfl) rfl ?_; clear hA a; intro a hA
    refine hA.split (d := 6) rfl ?_ ?_
    · clear hA; intro hg10 hA
      refine S.valg (dj := 6) hA (by kernel_rfl) rfl (R.move rfl) rfl ?_; clear hA a; intro a hA
      refine S.valg (dj := 6) hA (by kernel_rfl) rfl (R.leq rfl rfl) rfl ?_; clear hA a; intro a hA
      refine S.val hA (R.pickT rfl rfl) rfl ?_; clear hA a; intro a hA
      refine S.done ?_
      replace hA : St 22 [(0, _), (3, _), (9, _)] a := hA.sub ((.cons rfl (.cons rfl (.cons rfl .nil))))
      exact hJ _ _ ⟨hA.sub (.cons rfl (.cons rfl (.cons (by first | rfl | exact congrArg (fun b => some (Value.bool b)) (by first | exact decide_eq_decide.2 (by omega) | exact or_bool (by omega) | exact and_bool (by omega) | (simp; done) | (simp [hg10]; done) | (have h80 := hg10; (try simp at h80); simp [h80]; done) | exact (decide_eq_false (fun h9 => hg10 h9.1)).symm)) .nil))), hM⟩
    · clear hA; intro hg10 hA
      refine S.no (dj := 6) hA (by kernel_rfl) rfl rfl rfl ?_; clear hA a; intro a hA
      refine S.no (dj := 6) hA (by kernel_rfl) rfl rfl rfl ?_; clear hA a; intro a hA
      refine S.val hA (R.pickF rfl rfl) rfl ?_; clear hA a; intro a hA
      refine S.done ?_
      replace hA : St 22 [(0, _), (3, _), (9, _)] a := hA.sub ((.cons rfl (.cons rfl (.cons rfl .nil))))
      exact hJ _ _ ⟨hA.sub (.cons rfl (.cons rfl (.cons (by first | rfl | exact congrArg (fun b => some (Value.bool b)) (by first | exact decide_eq_decide.2 (by omega) | exact or_bool (by omega) | exact and_bool (by omega) | (simp; done) | (simp [hg10]; done) | (have h80 := hg10; (try simp at h80); simp [h80]; done) | exact (decide_eq_false (fun h9 => hg10 h9.1)).symm)) .nil))), hM⟩
theorem instNames_any (k : Int) (_h : (Lit.int .i64 k).wf = true) (w : World) (htab : Lib.TabIs Tryd.prog w "internal/strconv.uint64pow10" .u64 Lib.pow10Tab) :
    Calls Tryd.prog 5 #[.int .i64 k] w fun e w' => e = .returned (.bool true) ∧ Below w.heap.size w w' := instNames_w k w htab
end Go.Proofs.YtakfcekfmdjklaaDoor
