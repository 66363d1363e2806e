/-
  The law LexBlanks.
-/
import Derived.Test.YtdbbigjoloinpaaDoorLexL
import Derived.Test.YtdbbigjoloinpaaDoorLex4
import Derived.Test.YtdbbigjoloinpaaDoorOpenB
namespace Go.Proofs.YtdbbigjoloinpaaDoor
open Go.RowKit
theorem scF_len2 (s : ByteArray) : ∀ f p X, X.length ≤ p → p ≤ s.size → (scF s f p X).1.length ≤ s.size + 1
  | 0, p, X, h, h2 => by simp [scF]; omega
  | f + 1, p, X, h, h2 => by
    rw [scF]
    split
    · rename_i hp
      have hbd := lst_bd hp
      split
      · simp
      · rename_i he
        have := hbd.2.2.1 (Classical.byContradiction he)
        exact scF_len2 s f _ _ (by rw [List.length_append]; omega) hbd.2.1
    · simp; omega
theorem scan_len2 (s : ByteArray) : (scan s).1.length ≤ s.size + 1 := by
  unfold scan
  split
  · simp
  · exact scF_len2 s _ _ _ (Nat.le_refl _) (Nat.zero_le _)
theorem bd_u8 {a : Int} (h : (Lit.int .u8 a).wf = true) : 0 ≤ a ∧ a ≤ 255 := by
  have h0 : IntKind.u8.min = 0 := rfl
  have h1 : IntKind.u8.max = 255 := rfl
  simp [Lit.wf, h0, h1] at h; omega
theorem kindA {u : ByteArray} {n : Nat} : (kb u n = 2 ∨ kb u n = 3) ↔ (n < u.size ∧ ((48 ≤ byt u n ∧ byt u n ≤ 57) ∨ (65 ≤ byt u n ∧ byt u n ≤ 90) ∨ (97 ≤ byt u n ∧ byt u n ≤ 122))) := by
  constructor
  · intro h
    have hlt : n < u.size := kb_lt (by omega)
    refine ⟨hlt, ?_⟩
    rw [kb_in hlt] at h
    unfold kindI at h
    revert h
    repeat' split
    all_goals (intro h; first | omega | (simp at h))
  · intro ⟨hlt, h⟩
    rw [kb_in hlt]
    unfold kindI
    rw [if_neg (by omega)]
    split
    · exact .inl rfl
    · rw [if_pos (by omega)]; exact .inr rfl

set_option maxRecDepth 100000 in
set_option maxHeartbeats 400000 in
theorem cut_any (u : ByteArray) (hu : u.size ≤ 1000000) (w : World) :
    Calls Tryd.prog 17 #[.string u] w fun e w' => e = .returned (.string (u.extract 0 (alr u))) ∧ Below w.heap.size w w' := by
  have hM := Mem.start w
  refine Calls.of_ends (vs := [.string u]) Tryd.func17 rfl Tryd.ntmps17 rfl ?_
  intro a hA
  replace hA : St 49 [(0, _)] a := hA
  refine Ends.seq ?_
  refine Ends.region ?_
  refine S.val hA (R.assign rfl) rfl ?_; clear hA a; intro a hA
  refine S.done ?_
  replace hA : St 49 [(0, _)] a := hA.sub ((.cons rfl .nil))
  refine Ends.seq ?_
  refine Ends.region ?_
  refine S.val hA (R.assign rfl) rfl ?_; clear hA a; intro a hA
  refine S.done ?_
  replace hA : St 49 [(0, _), (3, _)] a := hA.sub ((.cons rfl (.cons rfl .nil)))
  refine Ends.seq ?_
  refine Ends.block ?_
  refine Ends.loop (σ := Nat) (fun n (a : Act) (wv : World) => St 49 [(0, .string u), (3, .int .i64 ((n : Int)))] a ∧ Mem w nof [] wv ∧ (n ≤ u.size) ∧ (∀ j, j < n → kb u j = 2 ∨ kb u j = 3)) (fun n => u.size - n) 0 ⟨hA.sub ((.cons rfl (.cons rfl .nil))), hM, (Nat.zero_le _), (fun j hj => absurd hj (Nat.not_lt_zero j))⟩ ?_
  clear hA hM a
  rintro n a w1 ⟨hA, hM, hn, hl⟩ hNext
  refine Ends.seq ?_
  refine Ends.seq ?_
  refine Ends.cut (fun (a : Act) (wv : World) => St 49 [(0, .string u), (3, .int .i64 ((n : Int))), (43, .bool (decide ((((n : Int)) < ((u.size : Int)) ∧ (((48 ≤ (byt u n) ∧ (byt u n) ≤ 57) ∨ (65 ≤ (byt u n) ∧ (byt u n) ≤ 90)) ∨ (97 ≤ (byt u n) ∧ (byt u n) ≤ 122))))))] a ∧ Mem w nof [] wv) ?_ (fun k2 hJ => ?_)
  · clear hA hM a; rintro a w2 ⟨hA, hM⟩
    refine Ends.ite hA rfl (fun hc1 => ?_) (fun hc1 => ?_)
    ·
      refine Ends.skip ?_
      refine Ends.block ?_
      refine Ends.region ?_
      refine S.val hA (R.move rfl) rfl ?_; clear hA a; intro a hA
      refine S.val hA (R.addI rfl rfl (r := ((n : Int)) + 1) rfl (by omega)) rfl ?_; clear hA a; intro a hA
      refine S.val hA (R.assign rfl) rfl ?_; clear hA a; intro a hA
      refine S.done ?_
      replace hA : St 49 [(0, _), (3, _)] a := hA.sub ((.cons rfl (.cons rfl .nil)))
      refine Ends.inBlock ?_
      exact hNext ((n + 1)) _ _ ((by show u.size - (n + 1) < u.size - n; omega)) ⟨hA.sub ((.cons rfl (.cons rfl .nil))), hM, (by omega), (fun j hj => by rcases Nat.lt_or_ge j n with g | g; exact hl j g; have e : j = n := (by omega); subst e; exact kindA.2 (by have h9 := hc1; omega))⟩
    ·
      refine Ends.exit rfl ?_
      replace hA : St 49 [(0, _), (3, _)] a := hA.sub ((.cons rfl (.cons rfl .nil)))
      refine Ends.seq ?_
      refine Ends.region ?_
      refine S.val hA (R.move rfl) rfl ?_; clear hA a; intro a hA
      refine S.val hA (R.move rfl) rfl ?_; clear hA a; intro a hA
      refine S.val hA (R.to (v := .string ((u.extract 0 n))) (R.sliceSH Tryd.underlying9 rfl rfl (by omega)) (by first | rfl | (congr 2; done) | (congr 2 <;> omega))) rfl ?_; clear hA a; intro a hA
      refine S.val hA (R.assign rfl) rfl ?_; clear hA a; intro a hA
      refine S.done ?_
      replace hA : St 49 [(2, _)] a := hA.sub ((.cons rfl .nil))
      refine Ends.ret1 Tryd.func17 Tryd.results17 hA rfl ?_
      have e0 : alr u = n := alr_uniq hl (fun h => by have h8 := kindA.1 h; have h9 := hc1; omega)
      rw [e0]
      exact ⟨rfl, hM.nilL.below⟩
  ·
    refine Ends.region ?_
    refine S.val hA (R.move rfl) rfl ?_; clear hA a; intro a hA
    refine S.val hA (R.move rfl) rfl ?_; clear hA a; intro a hA
    refine S.val hA (R.lenStr Tryd.underlying9 rfl rfl) rfl ?_; clear hA a; intro a hA
    refine S.val hA (R.lss rfl rfl) rfl ?_; clear hA a; intro a hA
    refine S.val hA (R.move rfl) rfl ?_; clear hA a; intro a hA
    refine hA.split (d := 8) rfl ?_ ?_
    · clear hA; intro hg2 hA
      refine S.valg (dj := 8) hA (by kernel_rfl) rfl (R.move rfl) rfl ?_; clear hA a; intro a hA
      refine S.valg (dj := 8) hA (by kernel_rfl) rfl (R.move rfl) rfl ?_; clear hA a; intro a hA
      refine S.valg (dj := 8) hA (by kernel_rfl) rfl (R.to (v := .int .u8 (byt u n)) (R.idxS Tryd.underlying9 rfl rfl (by omega)) (by first | rfl | (congr 2; done) | (congr 2; omega))) rfl ?_; clear hA a; intro a hA
      refine S.valg (dj := 8) hA (by kernel_rfl) rfl (R.geq rfl rfl) rfl ?_; clear hA a; intro a hA
      refine S.valg (dj := 8) hA (by kernel_rfl) rfl (R.move rfl) rfl ?_; clear hA a; intro a hA
      refine hA.split (d := 13) rfl ?_ ?_
      · clear hA; intro hg3 hA
        refine S.valg (dj := 13) hA (by kernel_rfl) rfl (R.move rfl) rfl ?_; clear hA a; intro a hA
        refine S.valg (dj := 13) hA (by kernel_rfl) rfl (R.move rfl) rfl ?_; clear hA a; intro a hA
        refine S.valg (dj := 13) hA (by kernel_rfl) rfl (R.to (v := .int .u8 (byt u n)) (R.idxS Tryd.underlying9 rfl rfl (by omega)) (by first | rfl | (congr 2; done) | (congr 2; omega))) rfl ?_; clear hA a; intro a hA
        refine S.valg (dj := 13) hA (by kernel_rfl) rfl (R.leq rfl rfl) rfl ?_; clear hA a; intro a hA
        refine S.valg (dj := 8) hA (by kernel_rfl) rfl (R.pickT rfl rfl) rfl ?_; clear hA a; intro a hA
        refine S.valg (dj := 8) hA (by kernel_rfl) rfl (R.move rfl) rfl ?_; clear hA a; intro a hA
        refine hA.split (d := 19) rfl ?_ ?_
        · clear hA; intro hg4 hA
          refine S.no (dj := 19) hA (by kernel_rfl) rfl rfl rfl ?_; clear hA a; intro a hA
          refine S.no (dj := 19) hA (by kernel_rfl) rfl rfl rfl ?_; clear hA a; intro a hA
          refine S.no (dj := 19) hA (by kernel_rfl) rfl rfl rfl ?_; clear hA a; intro a hA
          refine S.no (dj := 19) hA (by kernel_rfl) rfl rfl rfl ?_; clear hA a; intro a hA
          refine S.no (dj := 19) hA (by kernel_rfl) rfl rfl rfl ?_; clear hA a; intro a hA
          refine S.noU (dj := 24) hA (by kernel_rfl) rfl rfl ?_; clear hA a; intro a hA
          refine S.noU (dj := 24) hA (by kernel_rfl) rfl rfl ?_; clear hA a; intro a hA
          refine S.noU (dj := 24) hA (by kernel_rfl) rfl rfl ?_; clear hA a; intro a hA
          refine S.noU (dj := 24) hA (by kernel_rfl) rfl rfl ?_; clear hA a; intro a hA
          refine S.no (dj := 19) hA (by kernel_rfl) rfl rfl rfl ?_; clear hA a; intro a hA
          refine S.valg (dj := 8) hA (by kernel_rfl) rfl (R.pickT rfl rfl) rfl ?_; clear hA a; intro a hA
          refine S.valg (dj := 8) hA (by kernel_rfl) rfl (R.move rfl) rfl ?_; clear hA a; intro a hA
          refine S.no (dj := 31) hA (by kernel_rfl) rfl rfl rfl ?_; clear hA a; intro a hA
          refine S.no (dj := 31) hA (by kernel_rfl) rfl rfl rfl ?_; clear hA a; intro a hA
          refine S.no (dj := 31) hA (by kernel_rfl) rfl rfl rfl ?_; clear hA a; intro a hA
          refine S.no (dj := 31) hA (by kernel_rfl) rfl rfl rfl ?_; clear hA a; intro a hA
          refine S.no (dj := 31) hA (by kernel_rfl) rfl rfl rfl ?_; clear hA a; intro a hA
          refine S.noU (dj := 36) hA (by kernel_rfl) rfl rfl ?_; clear hA a; intro a hA
          refine S.noU (dj := 36) hA (by kernel_rfl) rfl rfl ?_; clear hA a; intro a hA
          refine S.noU (dj := 36) hA (by kernel_rfl) rfl rfl ?_; clear hA a; intro a hA
          refine S.noU (dj := 36) hA (by kernel_rfl) rfl rfl ?_; clear hA a; intro a hA
          refine S.no (dj := 31) hA (by kernel_rfl) rfl rfl rfl ?_; clear hA a; intro a hA
          refine S.valg (dj := 8) hA (by kernel_rfl) rfl (R.pickT rfl rfl) rfl ?_; clear hA a; intro a hA
          refine S.val hA (R.pickT rfl rfl) rfl ?_; clear hA a; intro a hA
          refine S.done ?_
          replace hA : St 49 [(0, _), (3, _), (43, _)] a := hA.sub ((.cons rfl (.cons rfl (.cons rfl .nil))))
          exact hJ _ _ ⟨hA.sub (.cons rfl (.cons rfl (.cons (by first | rfl | exact congrArg (fun b => some (Value.bool b)) (by first | (simp; done) | (simp [hg2, hg3, hg4]; done) | (have h80 := hg2; (try simp at h80); have h81 := hg3; (try simp at h81); have h82 := hg4; (try simp at h82); simp [h80, h81, h82]; done) | exact (decide_eq_false (fun h9 => hg2 h9.1)).symm | exact (decide_eq_false (fun h9 => hg3 h9.1)).symm | exact (decide_eq_false (fun h9 => hg4 h9.1)).symm)) .nil))), hM⟩
        · clear hA; intro hg4 hA
          refine S.valg (dj := 19) hA (by kernel_rfl) rfl (R.move rfl) rfl ?_; clear hA a; intro a hA
          refine S.valg (dj := 19) hA (by kernel_rfl) rfl (R.move rfl) rfl ?_; clear hA a; intro a hA
          refine S.valg (dj := 19) hA (by kernel_rfl) rfl (R.to (v := .int .u8 (byt u n)) (R.idxS Tryd.underlying9 rfl rfl (by omega)) (by first | rfl | (congr 2; done) | (congr 2; omega))) rfl ?_; clear hA a; intro a hA
          refine S.valg (dj := 19) hA (by kernel_rfl) rfl (R.geq rfl rfl) rfl ?_; clear hA a; intro a hA
          refine S.valg (dj := 19) hA (by kernel_rfl) rfl (R.move rfl) rfl ?_; clear hA a; intro a hA
          refine hA.split (d := 24) rfl ?_ ?_
          · clear hA; intro hg5 hA
            refine S.valg (dj := 24) hA (by kernel_rfl) rfl (R.move rfl) rfl ?_; clear hA a; intro a hA
            refine S.valg (dj := 24) hA (by kernel_rfl) rfl (R.move rfl) rfl ?_; clear hA a; intro a hA
            refine S.valg (dj := 24) hA (by kernel_rfl) rfl (R.to (v := .int .u8 (byt u n)) (R.idxS Tryd.underlying9 rfl rfl (by omega)) (by first | rfl | (congr 2; done) | (congr 2; omega))) rfl ?_; clear hA a; intro a hA
            refine S.valg (dj := 24) hA (by kernel_rfl) rfl (R.leq rfl rfl) rfl ?_; clear hA a; intro a hA
            refine S.valg (dj := 19) hA (by kernel_rfl) rfl (R.pickT rfl rfl) rfl ?_; clear hA a; intro a hA
            refine S.valg (dj := 8) hA (by kernel_rfl) rfl (R.pickF rfl rfl) rfl ?_; clear hA a; intro a hA
            refine S.valg (dj := 8) hA (by kernel_rfl) rfl (R.move rfl) rfl ?_; clear hA a; intro a hA
            refine hA.split (d := 31) rfl ?_ ?_
            · clear hA; intro hg6 hA
              refine S.no (dj := 31) hA (by kernel_rfl) rfl rfl rfl ?_; clear hA a; intro a hA
              refine S.no (dj := 31) hA (by kernel_rfl) rfl rfl rfl ?_; clear hA a; intro a hA
              refine S.no (dj := 31) hA (by kernel_rfl) rfl rfl rfl ?_; clear hA a; intro a hA
              refine S.no (dj := 31) hA (by kernel_rfl) rfl rfl rfl ?_; clear hA a; intro a hA
              refine S.no (dj := 31) hA (by kernel_rfl) rfl rfl rfl ?_; clear hA a; intro a hA
              refine S.noU (dj := 36) hA (by kernel_rfl) rfl rfl ?_; clear hA a; intro a hA
              refine S.noU (dj := 36) hA (by kernel_rfl) rfl rfl ?_; clear hA a; intro a hA
              refine S.noU (dj := 36) hA (by kernel_rfl) rfl rfl ?_; clear hA a; intro a hA
              refine S.noU (dj := 36) hA (by kernel_rfl) rfl rfl ?_; clear hA a; intro a hA
              refine S.no (dj := 31) hA (by kernel_rfl) rfl rfl rfl ?_; clear hA a; intro a hA
              refine S.valg (dj := 8) hA (by kernel_rfl) rfl (R.pickT rfl rfl) rfl ?_; clear hA a; intro a hA
              refine S.val hA (R.pickT rfl rfl) rfl ?_; clear hA a; intro a hA
              refine S.done ?_
              replace hA : St 49 [(0, _), (3, _), (43, _)] a := hA.sub ((.cons rfl (.cons rfl (.cons rfl .nil))))
              exact hJ _ _ ⟨hA.sub (.cons rfl (.cons rfl (.cons (by first | rfl | exact congrArg (fun b => some (Value.bool b)) (by first | (simp; done) | (simp [hg2, hg3, hg4, hg5, hg6]; done) | (have h80 := hg2; (try simp at h80); have h81 := hg3; (try simp at h81); have h82 := hg4; (try simp at h82); have h83 := hg5; (try simp at h83); have h84 := hg6; (try simp at h84); simp [h80, h81, h82, h83, h84]; done) | exact (decide_eq_false (fun h9 => hg2 h9.1)).symm | exact (decide_eq_false (fun h9 => hg3 h9.1)).symm | exact (decide_eq_false (fun h9 => hg4 h9.1)).symm | exact (decide_eq_false (fun h9 => hg5 h9.1)).symm | exact (decide_eq_false (fun h9 => hg6 h9.1)).symm)) .nil))), hM⟩
            · clear hA; intro hg6 hA
              refine S.valg (dj := 31) hA (by kernel_rfl) rfl (R.move rfl) rfl ?_; clear hA a; intro a hA
              refine S.valg (dj := 31) hA (by kernel_rfl) rfl (R.move rfl) rfl ?_; clear hA a; intro a hA
              refine S.valg (dj := 31) hA (by kernel_rfl) rfl (R.to (v := .int .u8 (byt u n)) (R.idxS Tryd.underlying9 rfl rfl (by omega)) (by first | rfl | (congr 2; done) | (congr 2; omega))) rfl ?_; clear hA a; intro a hA
              refine S.valg (dj := 31) hA (by kernel_rfl) rfl (R.geq rfl rfl) rfl ?_; clear hA a; intro a hA
              refine S.valg (dj := 31) hA (by kernel_rfl) rfl (R.move rfl) rfl ?_; clear hA a; intro a hA
              refine hA.split (d := 36) rfl ?_ ?_
              · clear hA; intro hg7 hA
                refine S.valg (dj := 36) hA (by kernel_rfl) rfl (R.move rfl) rfl ?_; clear hA a; intro a hA
                refine S.valg (dj := 36) hA (by kernel_rfl) rfl (R.move rfl) rfl ?_; clear hA a; intro a hA
                refine S.valg (dj := 36) hA (by kernel_rfl) rfl (R.to (v := .int .u8 (byt u n)) (R.idxS Tryd.underlying9 rfl rfl (by omega)) (by first | rfl | (congr 2; done) | (congr 2; omega))) rfl ?_; clear hA a; intro a hA
                refine S.valg (dj := 36) hA (by kernel_rfl) rfl (R.leq rfl rfl) rfl ?_; clear hA a; intro a hA
                refine S.valg (dj := 31) hA (by kernel_rfl) rfl (R.pickT rfl rfl) rfl ?_; clear hA a; intro a hA
                refine S.valg (dj := 8) hA (by kernel_rfl) rfl (R.pickF rfl rfl) rfl ?_; clear hA a; intro a hA
                refine S.val hA (R.pickT rfl rfl) rfl ?_; clear hA a; intro a hA
                refine S.done ?_
                replace hA : St 49 [(0, _), (3, _), (43, _)] a := hA.sub ((.cons rfl (.cons rfl (.cons rfl .nil))))
                exact hJ _ _ ⟨hA.sub (.cons rfl (.cons rfl (.cons (by first | rfl | exact congrArg (fun b => some (Value.bool b)) (by first | (simp; done) | (simp [hg2, hg3, hg4, hg5, hg6, hg7]; done) | (have h80 := hg2; (try simp at h80); have h81 := hg3; (try simp at h81); have h82 := hg4; (try simp at h82); have h83 := hg5; (try simp at h83); have h84 := hg6; (try simp at h84); have h85 := hg7; (try simp at h85); simp [h80, h81, h82, h83, h84, h85]; done) | exact (decide_eq_false (fun h9 => hg2 h9.1)).symm | exact (decide_eq_false (fun h9 => hg3 h9.1)).symm | exact (decide_eq_false (fun h9 => hg4 h9.1)).symm | exact (decide_eq_false (fun h9 => hg5 h9.1)).symm | exact (decide_eq_false (fun h9 => hg6 h9.1)).symm | exact (decide_eq_false (fun h9 => hg7 h9.1)).symm)) .nil))), hM⟩
              · clear hA; intro hg7 hA
                refine S.no (dj := 36) hA (by kernel_rfl) rfl rfl rfl ?_; clear hA a; intro a hA
                refine S.no (dj := 36) hA (by kernel_rfl) rfl rfl rfl ?_; clear hA a; intro a hA
                refine S.no (dj := 36) hA (by kernel_rfl) rfl rfl rfl ?_; clear hA a; intro a hA
                refine S.no (dj := 36) hA (by kernel_rfl) rfl rfl rfl ?_; clear hA a; intro a hA
                refine S.valg (dj := 31) hA (by kernel_rfl) rfl (R.pickF rfl rfl) rfl ?_; clear hA a; intro a hA
                refine S.valg (dj := 8) hA (by kernel_rfl) rfl (R.pickF rfl rfl) rfl ?_; clear hA a; intro a hA
                refine S.val hA (R.pickT rfl rfl) rfl ?_; clear hA a; intro a hA
                refine S.done ?_
                replace hA : St 49 [(0, _), (3, _), (43, _)] a := hA.sub ((.cons rfl (.cons rfl (.cons rfl .nil))))
                exact hJ _ _ ⟨hA.sub (.cons rfl (.cons rfl (.cons (by first | rfl | exact congrArg (fun b => some (Value.bool b)) (by first | (simp; done) | (simp [hg2, hg3, hg4, hg5, hg6, hg7]; done) | (have h80 := hg2; (try simp at h80); have h81 := hg3; (try simp at h81); have h82 := hg4; (try simp at h82); have h83 := hg5; (try simp at h83); have h84 := hg6; (try simp at h84); have h85 := hg7; (try simp at h85); simp [h80, h81, h82, h83, h84, h85]; done) | exact (decide_eq_false (fun h9 => hg2 h9.1)).symm | exact (decide_eq_false (fun h9 => hg3 h9.1)).symm | exact (decide_eq_false (fun h9 => hg4 h9.1)).symm | exact (decide_eq_false (fun h9 => hg5 h9.1)).symm | exact (decide_eq_false (fun h9 => hg6 h9.1)).symm | exact (decide_eq_false (fun h9 => hg7 h9.1)).symm)) .nil))), hM⟩
          · clear hA; intro hg5 hA
            refine S.no (dj := 24) hA (by kernel_rfl) rfl rfl rfl ?_; clear hA a; intro a hA
            refine S.no (dj := 24) hA (by kernel_rfl) rfl rfl rfl ?_; clear hA a; intro a hA
            refine S.no (dj := 24) hA (by kernel_rfl) rfl rfl rfl ?_; clear hA a; intro a hA
            refine S.no (dj := 24) hA (by kernel_rfl) rfl rfl rfl ?_; clear hA a; intro a hA
            refine S.valg (dj := 19) hA (by kernel_rfl) rfl (R.pickF rfl rfl) rfl ?_; clear hA a; intro a hA
            refine S.valg (dj := 8) hA (by kernel_rfl) rfl (R.pickF rfl rfl) rfl ?_; clear hA a; intro a hA
            refine S.valg (dj := 8) hA (by kernel_rfl) rfl (R.move rfl) rfl ?_; clear hA a; intro a hA
            refine S.valg (dj := 31) hA (by kernel_rfl) rfl (R.move rfl) rfl ?_; clear hA a; intro a hA
            refine S.valg (dj := 31) hA (by kernel_rfl) rfl (R.move rfl) rfl ?_; clear hA a; intro a hA
            refine S.valg (dj := 31) hA (by kernel_rfl) rfl (R.to (v := .int .u8 (byt u n)) (R.idxS Tryd.underlying9 rfl rfl (by omega)) (by first | rfl | (congr 2; done) | (congr 2; omega))) rfl ?_; clear hA a; intro a hA
            refine S.valg (dj := 31) hA (by kernel_rfl) rfl (R.geq rfl rfl) rfl ?_; clear hA a; intro a hA
            refine S.valg (dj := 31) hA (by kernel_rfl) rfl (R.move rfl) rfl ?_; clear hA a; intro a hA
            refine hA.split (d := 36) rfl ?_ ?_
            · clear hA; intro hg8 hA
              refine S.valg (dj := 36) hA (by kernel_rfl) rfl (R.move rfl) rfl ?_; clear hA a; intro a hA
              refine S.valg (dj := 36) hA (by kernel_rfl) rfl (R.move rfl) rfl ?_; clear hA a; intro a hA
              refine S.valg (dj := 36) hA (by kernel_rfl) rfl (R.to (v := .int .u8 (byt u n)) (R.idxS Tryd.underlying9 rfl rfl (by omega)) (by first | rfl | (congr 2; done) | (congr 2; omega))) rfl ?_; clear hA a; intro a hA
              refine S.valg (dj := 36) hA (by kernel_rfl) rfl (R.leq rfl rfl) rfl ?_; clear hA a; intro a hA
              refine S.valg (dj := 31) hA (by kernel_rfl) rfl (R.pickT rfl rfl) rfl ?_; clear hA a; intro a hA
              refine S.valg (dj := 8) hA (by kernel_rfl) rfl (R.pickF rfl rfl) rfl ?_; clear hA a; intro a hA
              refine S.val hA (R.pickT rfl rfl) rfl ?_; clear hA a; intro a hA
              refine S.done ?_
              replace hA : St 49 [(0, _), (3, _), (43, _)] a := hA.sub ((.cons rfl (.cons rfl (.cons rfl .nil))))
              exact hJ _ _ ⟨hA.sub (.cons rfl (.cons rfl (.cons (by first | rfl | exact congrArg (fun b => some (Value.bool b)) (by first | (simp; done) | (simp [hg2, hg3, hg4, hg5, hg8]; done) | (have h80 := hg2; (try simp at h80); have h81 := hg3; (try simp at h81); have h82 := hg4; (try simp at h82); have h83 := hg5; (try simp at h83); have h84 := hg8; (try simp at h84); simp [h80, h81, h82, h83, h84]; done) | exact (decide_eq_false (fun h9 => hg2 h9.1)).symm | exact (decide_eq_false (fun h9 => hg3 h9.1)).symm | exact (decide_eq_false (fun h9 => hg4 h9.1)).symm | exact (decide_eq_false (fun h9 => hg5 h9.1)).symm | exact (decide_eq_false (fun h9 => hg8 h9.1)).symm)) .nil))), hM⟩
            · clear hA; intro hg8 hA
              refine S.no (dj := 36) hA (by kernel_rfl) rfl rfl rfl ?_; clear hA a; intro a hA
              refine S.no (dj := 36) hA (by kernel_rfl) rfl rfl rfl ?_; clear hA a; intro a hA
              refine S.no (dj := 36) hA (by kernel_rfl) rfl rfl rfl ?_; clear hA a; intro a hA
              refine S.no (dj := 36) hA (by kernel_rfl) rfl rfl rfl ?_; clear hA a; intro a hA
              refine S.valg (dj := 31) hA (by kernel_rfl) rfl (R.pickF rfl rfl) rfl ?_; clear hA a; intro a hA
              refine S.valg (dj := 8) hA (by kernel_rfl) rfl (R.pickF rfl rfl) rfl ?_; clear hA a; intro a hA
              refine S.val hA (R.pickT rfl rfl) rfl ?_; clear hA a; intro a hA
              refine S.done ?_
              replace hA : St 49 [(0, _), (3, _), (43, _)] a := hA.sub ((.cons rfl (.cons rfl (.cons rfl .nil))))
              exact hJ _ _ ⟨hA.sub (.cons rfl (.cons rfl (.cons (by first | rfl | exact congrArg (fun b => some (Value.bool b)) (by first | (simp; done) | (simp [hg2, hg3, hg4, hg5, hg8]; done) | (have h80 := hg2; (try simp at h80); have h81 := hg3; (try simp at h81); have h82 := hg4; (try simp at h82); have h83 := hg5; (try simp at h83); have h84 := hg8; (try simp at h84); simp [h80, h81, h82, h83, h84]; done) | exact (decide_eq_false (fun h9 => hg2 h9.1)).symm | exact (decide_eq_false (fun h9 => hg3 h9.1)).symm | exact (decide_eq_false (fun h9 => hg4 h9.1)).symm | exact (decide_eq_false (fun h9 => hg5 h9.1)).symm | exact (decide_eq_false (fun h9 => hg8 h9.1)).symm)) .nil))), hM⟩
      · clear hA; intro hg3 hA
        refine S.no (dj := 13) hA (by kernel_rfl) rfl rfl rfl ?_; clear hA a; intro a hA
        refine S.no (dj := 13) hA (by kernel_rfl) rfl rfl rfl ?_; clear hA a; intro a hA
        refine S.no (dj := 13) hA (by kernel_rfl) rfl rfl rfl ?_; clear hA a; intro a hA
        refine S.no (dj := 13) hA (by kernel_rfl) rfl rfl rfl ?_; clear hA a; intro a hA
        refine S.valg (dj := 8) hA (by kernel_rfl) rfl (R.pickF rfl rfl) rfl ?_; clear hA a; intro a hA
        refine S.valg (dj := 8) hA (by kernel_rfl) rfl (R.move rfl) rfl ?_; clear hA a; intro a hA
        refine S.valg (dj := 19) hA (by kernel_rfl) rfl (R.move rfl) rfl ?_; clear hA a; intro a hA
        refine S.valg (dj := 19) hA (by kernel_rfl) rfl (R.move rfl) rfl ?_; clear hA a; intro a hA
        refine S.valg (dj := 19) hA (by kernel_rfl) rfl (R.to (v := .int .u8 (byt u n)) (R.idxS Tryd.underlying9 rfl rfl (by omega)) (by first | rfl | (congr 2; done) | (congr 2; omega))) rfl ?_; clear hA a; intro a hA
        refine S.valg (dj := 19) hA (by kernel_rfl) rfl (R.geq rfl rfl) rfl ?_; clear hA a; intro a hA
        refine S.valg (dj := 19) hA (by kernel_rfl) rfl (R.move rfl) rfl ?_; clear hA a; intro a hA
        refine hA.split (d := 24) rfl ?_ ?_
        · clear hA; intro hg9 hA
          refine S.valg (dj := 24) hA (by kernel_rfl) rfl (R.move rfl) rfl ?_; clear hA a; intro a hA
          refine S.valg (dj := 24) hA (by kernel_rfl) rfl (R.move rfl) rfl ?_; clear hA a; intro a hA
          refine S.valg (dj := 24) hA (by kernel_rfl) rfl (R.to (v := .int .u8 (byt u n)) (R.idxS Tryd.underlying9 rfl rfl (by omega)) (by first | rfl | (congr 2; done) | (congr 2; omega))) rfl ?_; clear hA a; intro a hA
          refine S.valg (dj := 24) hA (by kernel_rfl) rfl (R.leq rfl rfl) rfl ?_; clear hA a; intro a hA
          refine S.valg (dj := 19) hA (by kernel_rfl) rfl (R.pickT rfl rfl) rfl ?_; clear hA a; intro a hA
          refine S.valg (dj := 8) hA (by kernel_rfl) rfl (R.pickF rfl rfl) rfl ?_; clear hA a; intro a hA
          refine S.valg (dj := 8) hA (by kernel_rfl) rfl (R.move rfl) rfl ?_; clear hA a; intro a hA
          refine hA.split (d := 31) rfl ?_ ?_
          · clear hA; intro hg10 hA
            refine S.no (dj := 31) hA (by kernel_rfl) rfl rfl rfl ?_; clear hA a; intro a hA
            refine S.no (dj := 31) hA (by kernel_rfl) rfl rfl rfl ?_; clear hA a; intro a hA
            refine S.no (dj := 31) hA (by kernel_rfl) rfl rfl rfl ?_; clear hA a; intro a hA
            refine S.no (dj := 31) hA (by kernel_rfl) rfl rfl rfl ?_; clear hA a; intro a hA
            refine S.no (dj := 31) hA (by kernel_rfl) rfl rfl rfl ?_; clear hA a; intro a hA
            refine S.noU (dj := 36) hA (by kernel_rfl) rfl rfl ?_; clear hA a; intro a hA
            refine S.noU (dj := 36) hA (by kernel_rfl) rfl rfl ?_; clear hA a; intro a hA
            refine S.noU (dj := 36) hA (by kernel_rfl) rfl rfl ?_; clear hA a; intro a hA
            refine S.noU (dj := 36) hA (by kernel_rfl) rfl rfl ?_; clear hA a; intro a hA
            refine S.no (dj := 31) hA (by kernel_rfl) rfl rfl rfl ?_; clear hA a; intro a hA
            refine S.valg (dj := 8) hA (by kernel_rfl) rfl (R.pickT rfl rfl) rfl ?_; clear hA a; intro a hA
            refine S.val hA (R.pickT rfl rfl) rfl ?_; clear hA a; intro a hA
            refine S.done ?_
            replace hA : St 49 [(0, _), (3, _), (43, _)] a := hA.sub ((.cons rfl (.cons rfl (.cons rfl .nil))))
            exact hJ _ _ ⟨hA.sub (.cons rfl (.cons rfl (.cons (by first | rfl | exact congrArg (fun b => some (Value.bool b)) (by first | (simp; done) | (simp [hg2, hg3, hg9, hg10]; done) | (have h80 := hg2; (try simp at h80); have h81 := hg3; (try simp at h81); have h82 := hg9; (try simp at h82); have h83 := hg10; (try simp at h83); simp [h80, h81, h82, h83]; done) | exact (decide_eq_false (fun h9 => hg2 h9.1)).symm | exact (decide_eq_false (fun h9 => hg3 h9.1)).symm | exact (decide_eq_false (fun h9 => hg9 h9.1)).symm | exact (decide_eq_false (fun h9 => hg10 h9.1)).symm)) .nil))), hM⟩
          · clear hA; intro hg10 hA
            refine S.valg (dj := 31) hA (by kernel_rfl) rfl (R.move rfl) rfl ?_; clear hA a; intro a hA
            refine S.valg (dj := 31) hA (by kernel_rfl) rfl (R.move rfl) rfl ?_; clear hA a; intro a hA
            refine S.valg (dj := 31) hA (by kernel_rfl) rfl (R.to (v := .int .u8 (byt u n)) (R.idxS Tryd.underlying9 rfl rfl (by omega)) (by first | rfl | (congr 2; done) | (congr 2; omega))) rfl ?_; clear hA a; intro a hA
            refine S.valg (dj := 31) hA (by kernel_rfl) rfl (R.geq rfl rfl) rfl ?_; clear hA a; intro a hA
            refine S.valg (dj := 31) hA (by kernel_rfl) rfl (R.move rfl) rfl ?_; clear hA a; intro a hA
            refine hA.split (d := 36) rfl ?_ ?_
            · clear hA; intro hg11 hA
              refine S.valg (dj := 36) hA (by kernel_rfl) rfl (R.move rfl) rfl ?_; clear hA a; intro a hA
              refine S.valg (dj := 36) hA (by kernel_rfl) rfl (R.move rfl) rfl ?_; clear hA a; intro a hA
              refine S.valg (dj := 36) hA (by kernel_rfl) rfl (R.to (v := .int .u8 (byt u n)) (R.idxS Tryd.underlying9 rfl rfl (by omega)) (by first | rfl | (congr 2; done) | (congr 2; omega))) rfl ?_; clear hA a; intro a hA
              refine S.valg (dj := 36) hA (by kernel_rfl) rfl (R.leq rfl rfl) rfl ?_; clear hA a; intro a hA
              refine S.valg (dj := 31) hA (by kernel_rfl) rfl (R.pickT rfl rfl) rfl ?_; clear hA a; intro a hA
              refine S.valg (dj := 8) hA (by kernel_rfl) rfl (R.pickF rfl rfl) rfl ?_; clear hA a; intro a hA
              refine S.val hA (R.pickT rfl rfl) rfl ?_; clear hA a; intro a hA
              refine S.done ?_
              replace hA : St 49 [(0, _), (3, _), (43, _)] a := hA.sub ((.cons rfl (.cons rfl (.cons rfl .nil))))
              exact hJ _ _ ⟨hA.sub (.cons rfl (.cons rfl (.cons (by first | rfl | exact congrArg (fun b => some (Value.bool b)) (by first | (simp; done) | (simp [hg2, hg3, hg9, hg10, hg11]; done) | (have h80 := hg2; (try simp at h80); have h81 := hg3; (try simp at h81); have h82 := hg9; (try simp at h82); have h83 := hg10; (try simp at h83); have h84 := hg11; (try simp at h84); simp [h80, h81, h82, h83, h84]; done) | exact (decide_eq_false (fun h9 => hg2 h9.1)).symm | exact (decide_eq_false (fun h9 => hg3 h9.1)).symm | exact (decide_eq_false (fun h9 => hg9 h9.1)).symm | exact (decide_eq_false (fun h9 => hg10 h9.1)).symm | exact (decide_eq_false (fun h9 => hg11 h9.1)).symm)) .nil))), hM⟩
            · clear hA; intro hg11 hA
              refine S.no (dj := 36) hA (by kernel_rfl) rfl rfl rfl ?_; clear hA a; intro a hA
              refine S.no (dj := 36) hA (by kernel_rfl) rfl rfl rfl ?_; clear hA a; intro a hA
              refine S.no (dj := 36) hA (by kernel_rfl) rfl rfl rfl ?_; clear hA a; intro a hA
              refine S.no (dj := 36) hA (by kernel_rfl) rfl rfl rfl ?_; clear hA a; intro a hA
              refine S.valg (dj := 31) hA (by kernel_rfl) rfl (R.pickF rfl rfl) rfl ?_; clear hA a; intro a hA
              refine S.valg (dj := 8) hA (by kernel_rfl) rfl (R.pickF rfl rfl) rfl ?_; clear hA a; intro a hA
              refine S.val hA (R.pickT rfl rfl) rfl ?_; clear hA a; intro a hA
              refine S.done ?_
              replace hA : St 49 [(0, _), (3, _), (43, _)] a := hA.sub ((.cons rfl (.cons rfl (.cons rfl .nil))))
              exact hJ _ _ ⟨hA.sub (.cons rfl (.cons rfl (.cons (by first | rfl | exact congrArg (fun b => some (Value.bool b)) (by first | (simp; done) | (simp [hg2, hg3, hg9, hg10, hg11]; done) | (have h80 := hg2; (try simp at h80); have h81 := hg3; (try simp at h81); have h82 := hg9; (try simp at h82); have h83 := hg10; (try simp at h83); have h84 := hg11; (try simp at h84); simp [h80, h81, h82, h83, h84]; done) | exact (decide_eq_false (fun h9 => hg2 h9.1)).symm | exact (decide_eq_false (fun h9 => hg3 h9.1)).symm | exact (decide_eq_false (fun h9 => hg9 h9.1)).symm | exact (decide_eq_false (fun h9 => hg10 h9.1)).symm | exact (decide_eq_false (fun h9 => hg11 h9.1)).symm)) .nil))), hM⟩
        · clear hA; intro hg9 hA
          refine S.no (dj := 24) hA (by kernel_rfl) rfl rfl rfl ?_; clear hA a; intro a hA
          refine S.no (dj := 24) hA (by kernel_rfl) rfl rfl rfl ?_; clear hA a; intro a hA
          refine S.no (dj := 24) hA (by kernel_rfl) rfl rfl rfl ?_; clear hA a; intro a hA
          refine S.no (dj := 24) hA (by kernel_rfl) rfl rfl rfl ?_; clear hA a; intro a hA
          refine S.valg (dj := 19) hA (by kernel_rfl) rfl (R.pickF rfl rfl) rfl ?_; clear hA a; intro a hA
          refine S.valg (dj := 8) hA (by kernel_rfl) rfl (R.pickF rfl rfl) rfl ?_; clear hA a; intro a hA
          refine S.valg (dj := 8) hA (by kernel_rfl) rfl (R.move rfl) rfl ?_; clear hA a; intro a hA
          refine S.valg (dj := 31) hA (by kernel_rfl) rfl (R.move rfl) rfl ?_; clear hA a; intro a hA
          refine S.valg (dj := 31) hA (by kernel_rfl) rfl (R.move rfl) rfl ?_; clear hA a; intro a hA
          refine S.valg (dj := 31) hA (by kernel_rfl) rfl (R.to (v := .int .u8 (byt u n)) (R.idxS Tryd.underlying9 rfl rfl (by omega)) (by first | rfl | (congr 2; done) | (congr 2; omega))) rfl ?_; clear hA a; intro a hA
          refine S.valg (dj := 31) hA (by kernel_rfl) rfl (R.geq rfl rfl) rfl ?_; clear hA a; intro a hA
          refine S.valg (dj := 31) hA (by kernel_rfl) rfl (R.move rfl) rfl ?_; clear hA a; intro a hA
          refine hA.split (d := 36) rfl ?_ ?_
          · clear hA; intro hg12 hA
            refine S.valg (dj := 36) hA (by kernel_rfl) rfl (R.move rfl) rfl ?_; clear hA a; intro a hA
            refine S.valg (dj := 36) hA (by kernel_rfl) rfl (R.move rfl) rfl ?_; clear hA a; intro a hA
            refine S.valg (dj := 36) hA (by kernel_rfl) rfl (R.to (v := .int .u8 (byt u n)) (R.idxS Tryd.underlying9 rfl rfl (by omega)) (by first | rfl | (congr 2; done) | (congr 2; omega))) rfl ?_; clear hA a; intro a hA
            refine S.valg (dj := 36) hA (by kernel_rfl) rfl (R.leq rfl rfl) rfl ?_; clear hA a; intro a hA
            refine S.valg (dj := 31) hA (by kernel_rfl) rfl (R.pickT rfl rfl) rfl ?_; clear hA a; intro a hA
            refine S.valg (dj := 8) hA (by kernel_rfl) rfl (R.pickF rfl rfl) rfl ?_; clear hA a; intro a hA
            refine S.val hA (R.pickT rfl rfl) rfl ?_; clear hA a; intro a hA
            refine S.done ?_
            replace hA : St 49 [(0, _), (3, _), (43, _)] a := hA.sub ((.cons rfl (.cons rfl (.cons rfl .nil))))
            exact hJ _ _ ⟨hA.sub (.cons rfl (.cons rfl (.cons (by first | rfl | exact congrArg (fun b => some (Value.bool b)) (by first | (simp; done) | (simp [hg2, hg3, hg9, hg12]; done) | (have h80 := hg2; (try simp at h80); have h81 := hg3; (try simp at h81); have h82 := hg9; (try simp at h82); have h83 := hg12; (try simp at h83); simp [h80, h81, h82, h83]; done) | exact (decide_eq_false (fun h9 => hg2 h9.1)).symm | exact (decide_eq_false (fun h9 => hg3 h9.1)).symm | exact (decide_eq_false (fun h9 => hg9 h9.1)).symm | exact (decide_eq_false (fun h9 => hg12 h9.1)).symm)) .nil))), hM⟩
          · clear hA; intro hg12 hA
            refine S.no (dj := 36) hA (by kernel_rfl) rfl rfl rfl ?_; clear hA a; intro a hA
            refine S.no (dj := 36) hA (by kernel_rfl) rfl rfl rfl ?_; clear hA a; intro a hA
            refine S.no (dj := 36) hA (by kernel_rfl) rfl rfl rfl ?_; clear hA a; intro a hA
            refine S.no (dj := 36) hA (by kernel_rfl) rfl rfl rfl ?_; clear hA a; intro a hA
            refine S.valg (dj := 31) hA (by kernel_rfl) rfl (R.pickF rfl rfl) rfl ?_; clear hA a; intro a hA
            refine S.valg (dj := 8) hA (by kernel_rfl) rfl (R.pickF rfl rfl) rfl ?_; clear hA a; intro a hA
            refine S.val hA (R.pickT rfl rfl) rfl ?_; clear hA a; intro a hA
            refine S.done ?_
            replace hA : St 49 [(0, _), (3, _), (43, _)] a := hA.sub ((.cons rfl (.cons rfl (.cons rfl .nil))))
            exact hJ _ _ ⟨hA.sub (.cons rfl (.cons rfl (.cons (by first | rfl | exact congrArg (fun b => some (Value.bool b)) (by first | (simp; done) | (simp [hg2, hg3, hg9, hg12]; done) | (have h80 := hg2; (try simp at h80); have h81 := hg3; (try simp at h81); have h82 := hg9; (try simp at h82); have h83 := hg12; (try simp at h83); simp [h80, h81, h82, h83]; done) | exact (decide_eq_false (fun h9 => hg2 h9.1)).symm | exact (decide_eq_false (fun h9 => hg3 h9.1)).symm | exact (decide_eq_false (fun h9 => hg9 h9.1)).symm | exact (decide_eq_false (fun h9 => hg12 h9.1)).symm)) .nil))), hM⟩
    · clear hA; intro hg2 hA
      refine S.no (dj := 8) hA (by kernel_rfl) rfl rfl rfl ?_; clear hA a; intro a hA
      refine S.no (dj := 8) hA (by kernel_rfl) rfl rfl rfl ?_; clear hA a; intro a hA
      refine S.no (dj := 8) hA (by kernel_rfl) rfl rfl rfl ?_; clear hA a; intro a hA
      refine S.no (dj := 8) hA (by kernel_rfl) rfl rfl rfl ?_; clear hA a; intro a hA
      refine S.no (dj := 8) hA (by kernel_rfl) rfl rfl rfl ?_; clear hA a; intro a hA
      refine S.noU (dj := 13) hA (by kernel_rfl) rfl rfl ?_; clear hA a; intro a hA
      refine S.noU (dj := 13) hA (by kernel_rfl) rfl rfl ?_; clear hA a; intro a hA
      refine S.noU (dj := 13) hA (by kernel_rfl) rfl rfl ?_; clear hA a; intro a hA
      refine S.noU (dj := 13) hA (by kernel_rfl) rfl rfl ?_; clear hA a; intro a hA
      refine S.no (dj := 8) hA (by kernel_rfl) rfl rfl rfl ?_; clear hA a; intro a hA
      refine S.no (dj := 8) hA (by kernel_rfl) rfl rfl rfl ?_; clear hA a; intro a hA
      refine S.noU (dj := 19) hA (by kernel_rfl) rfl rfl ?_; clear hA a; intro a hA
      refine S.noU (dj := 19) hA (by kernel_rfl) rfl rfl ?_; clear hA a; intro a hA
      refine S.noU (dj := 19) hA (by kernel_rfl) rfl rfl ?_; clear hA a; intro a hA
      refine S.noU (dj := 19) hA (by kernel_rfl) rfl rfl ?_; clear hA a; intro a hA
      refine S.noU (dj := 19) hA (by kernel_rfl) rfl rfl ?_; clear hA a; intro a hA
      refine S.noU (dj := 24) hA (by kernel_rfl) rfl rfl ?_; clear hA a; intro a hA
      refine S.noU (dj := 24) hA (by kernel_rfl) rfl rfl ?_; clear hA a; intro a hA
      refine S.noU (dj := 24) hA (by kernel_rfl) rfl rfl ?_; clear hA a; intro a hA
      refine S.noU (dj := 24) hA (by kernel_rfl) rfl rfl ?_; clear hA a; intro a hA
      refine S.noU (dj := 19) hA (by kernel_rfl) rfl rfl ?_; clear hA a; intro a hA
      refine S.no (dj := 8) hA (by kernel_rfl) rfl rfl rfl ?_; clear hA a; intro a hA
      refine S.no (dj := 8) hA (by kernel_rfl) rfl rfl rfl ?_; clear hA a; intro a hA
      refine S.noU (dj := 31) hA (by kernel_rfl) rfl rfl ?_; clear hA a; intro a hA
      refine S.noU (dj := 31) hA (by kernel_rfl) rfl rfl ?_; clear hA a; intro a hA
      refine S.noU (dj := 31) hA (by kernel_rfl) rfl rfl ?_; clear hA a; intro a hA
      refine S.noU (dj := 31) hA (by kernel_rfl) rfl rfl ?_; clear hA a; intro a hA
      refine S.noU (dj := 31) hA (by kernel_rfl) rfl rfl ?_; clear hA a; intro a hA
      refine S.noU (dj := 36) hA (by kernel_rfl) rfl rfl ?_; clear hA a; intro a hA
      refine S.noU (dj := 36) hA (by kernel_rfl) rfl rfl ?_; clear hA a; intro a hA
      refine S.noU (dj := 36) hA (by kernel_rfl) rfl rfl ?_; clear hA a; intro a hA
      refine S.noU (dj := 36) hA (by kernel_rfl) rfl rfl ?_; clear hA a; intro a hA
      refine S.noU (dj := 31) hA (by kernel_rfl) rfl rfl ?_; clear hA a; intro a hA
      refine S.no (dj := 8) hA (by kernel_rfl) rfl rfl rfl ?_; clear hA a; intro a hA
      refine S.val hA (R.pickF rfl rfl) rfl ?_; clear hA a; intro a hA
      refine S.done ?_
      replace hA : St 49 [(0, _), (3, _), (43, _)] a := hA.sub ((.cons rfl (.cons rfl (.cons rfl .nil))))
      exact hJ _ _ ⟨hA.sub (.cons rfl (.cons rfl (.cons (by first | rfl | exact congrArg (fun b => some (Value.bool b)) (by first | (simp; done) | (simp [hg2]; done) | (have h80 := hg2; (try simp at h80); simp [h80]; done) | exact (decide_eq_false (fun h9 => hg2 h9.1)).symm)) .nil))), hM⟩
theorem cut_eq (u : ByteArray) (d : Nat) (P : ByteArray) (h : alr u = d ∧ u.extract 0 d = P) (hu : u.size ≤ 1000000) (w : World) : Calls Tryd.prog 17 #[.string u] w fun e w' => e = .returned (.string P) ∧ Below w.heap.size w w' := by
  have h1 := cut_any u hu w
  rwa [h.1, h.2] at h1
set_option maxRecDepth 100000 in
set_option maxHeartbeats 400000 in
theorem lexBlanks_w (s : ByteArray) (v : Value) (l : List Int) (ad : Option Addr) (cap : Nat) (hl8 : ∀ x ∈ l, (Lit.int .u8 x).wf = true) (hll : l.length ≤ maxLen) (w : World) (hsl : BytSl w (.slice ad l.length cap) l) (htab : U8T w) :
    Calls Tryd.prog 4 #[.string s, .slice ad l.length cap] w fun e w' => e = .returned (.bool true) ∧ Below w.heap.size w w' := by
  have hM := Mem.start w
  refine Calls.of_ends (vs := [.string s, .slice ad l.length cap]) Tryd.func4 rfl Tryd.ntmps4 rfl ?_
  intro a hA
  replace hA : St 134 [(0, _), (1, _)] a := hA
  refine Ends.seq ?_
  refine Ends.region ?_
  refine S.val hA (R.assign rfl) rfl ?_; clear hA a; intro a hA
  refine S.done ?_
  replace hA : St 134 [(0, _), (1, _)] a := hA.sub ((.cons rfl (.cons rfl .nil)))
  refine Ends.seq ?_
  refine Ends.seq ?_
  refine Ends.region ?_
  refine S.val hA (R.move rfl) rfl ?_; clear hA a; intro a hA
  refine S.val hA (R.lenStr Tryd.underlying9 rfl rfl) rfl ?_; clear hA a; intro a hA
  refine S.val hA (R.gtr rfl rfl) rfl ?_; clear hA a; intro a hA
  refine S.done ?_
  replace hA : St 134 [(0, _), (1, _), (18, _)] a := hA.sub ((.cons rfl (.cons rfl (.cons rfl .nil))))
  refine Ends.ite hA rfl (fun hc1 => ?_) (fun hc1 => ?_)
  ·
    refine Ends.seq ?_
    refine Ends.region ?_
    refine S.call hA (R.callF Tryd.func12 rfl rfl rfl) rfl (lexes_any _ (htab.mem hM OffT.nof)) ?_; clear hA a
    rintro e w1 ⟨rfl, hb⟩
    replace hM := hM.callB hb; clear hb
    refine ⟨.bool true, rfl, fun a hA => ?_⟩
    refine S.val hA (R.assign rfl) rfl ?_; clear hA a; intro a hA
    refine S.done ?_
    replace hA : St 134 [(0, _), (1, _), (4, _)] a := hA.sub ((.cons rfl (.cons rfl (.cons rfl .nil))))
    refine Ends.ret1 Tryd.func4 Tryd.results4 hA rfl ?_
    exact ⟨rfl, hM.nilL.below⟩
  ·
    refine Ends.skip ?_
    refine Ends.seq ?_
    refine Ends.region ?_
    refine S.val hA (R.move rfl) rfl ?_; clear hA a; intro a hA
    refine S.call hA (R.callF Tryd.func13 rfl rfl rfl) rfl (scan_any s (by omega) _ (htab.mem hM OffT.nof)) ?_; clear hA a
    rintro e w2 ⟨a4, c5, rfl, hn⟩
    replace hM : Mem _ _ [own 36 4 (.slice a4 (((scan s).1).length) c5) (((scan s).1).length) (tokv ((scan s).1))] _ := hM.call hn; clear hn
    refine ⟨.tuple #[.slice a4 ((scan s).1.length) c5, .int .i64 ((scan s).2.1), .int .i64 ((scan s).2.2)], rfl, fun a hA => ?_⟩
    refine S.val hA (R.move rfl) rfl ?_; clear hA a; intro a hA
    refine S.val hA (R.extract (v := .slice a4 ((scan s).1.length) c5) rfl rfl) rfl ?_; clear hA a; intro a hA
    refine S.val hA (R.extract (v := .int .i64 ((scan s).2.1)) rfl rfl) rfl ?_; clear hA a; intro a hA
    refine S.val hA (R.extract (v := .int .i64 ((scan s).2.2)) rfl rfl) rfl ?_; clear hA a; intro a hA
    refine S.val hA (R.assign rfl) rfl ?_; clear hA a; intro a hA
    refine S.val hA (R.assign rfl) rfl ?_; clear hA a; intro a hA
    refine S.val hA (R.assign rfl) rfl ?_; clear hA a; intro a hA
    refine S.done ?_
    replace hA : St 134 [(0, _), (1, _), (5, _), (7, _)] a := hA.sub ((.cons rfl (.cons rfl (.cons rfl (.cons rfl .nil)))))
    refine Ends.seq ?_
    refine Ends.seq ?_
    have hlen := scan_len s
    refine Ends.region ?_
    refine S.call hA (R.callF Tryd.func12 rfl rfl rfl) rfl (lexes_any _ (htab.mem hM OffT.nof)) ?_; clear hA a
    rintro e w3 ⟨rfl, hb⟩
    replace hM := hM.callB hb; clear hb
    refine ⟨.bool true, rfl, fun a hA => ?_⟩
    refine S.val hA (R.not rfl) rfl ?_; clear hA a; intro a hA
    refine S.val hA (R.move rfl) rfl ?_; clear hA a; intro a hA
    refine S.valg (dj := 28) hA (by kernel_rfl) rfl (R.move rfl) rfl ?_; clear hA a; intro a hA
    refine S.valg (dj := 28) hA (by kernel_rfl) rfl (R.neq rfl rfl) rfl ?_; clear hA a; intro a hA
    refine S.val hA (R.pickF rfl rfl) rfl ?_; clear hA a; intro a hA
    refine S.done ?_
    replace hA : St 134 [(0, _), (1, _), (5, _), (31, _)] a := hA.sub ((.cons rfl (.cons rfl (.cons rfl (.cons rfl .nil)))))
    refine Ends.ite hA rfl (fun hc6 => ?_) (fun hc6 => ?_)
    ·
      refine Ends.seq ?_
      have hnil := (scan_TI s).2 hc6
      refine Ends.region ?_
      refine S.call hA (R.callF Tryd.func12 rfl rfl rfl) rfl (lexes_any _ (htab.mem hM OffT.nof)) ?_; clear hA a
      rintro e w4 ⟨rfl, hb⟩
      replace hM := hM.callB hb; clear hb
      refine ⟨.bool true, rfl, fun a hA => ?_⟩
      refine S.val hA (R.assign rfl) rfl ?_; clear hA a; intro a hA
      refine S.done ?_
      replace hA : St 134 [(0, _), (1, _), (4, _), (5, _)] a := hA.sub ((.cons rfl (.cons rfl (.cons rfl (.cons rfl .nil)))))
      refine Ends.ret1 Tryd.func4 Tryd.results4 hA rfl ?_
      exact ⟨rfl, hM.nilL.below⟩
    ·
      refine Ends.skip ?_
      refine Ends.seq ?_
      refine Ends.region ?_
      refine S.val hA (R.assign rfl) rfl ?_; clear hA a; intro a hA
      refine S.done ?_
      replace hA : St 134 [(0, _), (1, _), (5, _), (8, _)] a := hA.sub ((.cons rfl (.cons rfl (.cons rfl (.cons rfl .nil)))))
      refine Ends.seq ?_
      refine Ends.seq ?_
      refine Ends.region ?_
      refine S.val hA (R.assign rfl) rfl ?_; clear hA a; intro a hA
      refine S.done ?_
      replace hA : St 134 [(0, _), (1, _), (5, _), (8, _), (9, _)] a := hA.sub ((.cons rfl (.cons rfl (.cons rfl (.cons rfl (.cons rfl .nil))))))
      refine Ends.block ?_
      have he := Classical.byContradiction hc6
      have hlast := scan_last he
      have hlen2 := scan_len2 s
      refine Ends.loop (σ := Nat × ByteArray) (fun (i, t) (a : Act) (wv : World) => St 134 [(0, .string s), (1, .slice ad l.length cap), (5, .slice a4 ((scan s).1.length) c5), (8, .string t), (9, .int .i64 ((i : Int)))] a ∧ Mem w nof [own 36 4 (.slice a4 (((scan s).1).length) c5) (((scan s).1).length) (tokv ((scan s).1))] wv ∧ (i ≤ (scan s).1.length) ∧ (t.size ≤ 60 * i) ∧ (i < (scan s).1.length → Built (scan s).1 t i) ∧ (i = (scan s).1.length → ∃ m : List Tok, m.length + 1 = (scan s).1.length ∧ (∀ j, j < m.length → same3 ((scan s).1.getD j tz) (m.getD j tz)) ∧ scan t = (m ++ [tend t], 0, 0))) (fun (i, t) => (scan s).1.length - i) ((0, ⟨#[]⟩)) ⟨hA.sub ((.cons rfl (.cons rfl (.cons rfl (.cons rfl (.cons rfl .nil)))))), hM, (Nat.zero_le _), (Nat.le_refl _), (fun _ => Built.nil _), (fun e => absurd e (by omega))⟩ ?_
      clear hA hM a
      rintro ⟨i, t⟩ a w5 ⟨hA, hM, hi, hts, hB, hF⟩ hNext
      refine Ends.seq ?_
      refine Ends.seq ?_
      refine Ends.region ?_
      refine S.val hA (R.move rfl) rfl ?_; clear hA a; intro a hA
      refine S.val hA (R.move rfl) rfl ?_; clear hA a; intro a hA
      refine S.val hA (R.lenS Tryd.underlying23 rfl rfl) rfl ?_; clear hA a; intro a hA
      refine S.val hA (R.lss rfl rfl) rfl ?_; clear hA a; intro a hA
      refine S.done ?_
      replace hA : St 134 [(0, _), (1, _), (5, _), (8, _), (9, _), (36, _)] a := hA.sub ((.cons rfl (.cons rfl (.cons rfl (.cons rfl (.cons rfl (.cons rfl .nil)))))))
      refine Ends.ite hA rfl (fun hc7 => ?_) (fun hc7 => ?_)
      ·
        refine Ends.skip ?_
        refine Ends.seq ?_
        refine Ends.block ?_
        refine Ends.seq ?_
        refine Ends.region ?_
        refine S.val hA (R.assign rfl) rfl ?_; clear hA a; intro a hA
        refine S.done ?_
        replace hA : St 134 [(0, _), (1, _), (5, _), (8, _), (9, _), (10, _)] a := hA.sub ((.cons rfl (.cons rfl (.cons rfl (.cons rfl (.cons rfl (.cons rfl .nil)))))))
        refine Ends.seq ?_
        refine Ends.seq ?_
        refine Ends.region ?_
        refine S.val hA (R.move rfl) rfl ?_; clear hA a; intro a hA
        refine S.val hA (R.move rfl) rfl ?_; clear hA a; intro a hA
        refine S.val hA (R.lenS Tryd.underlying33 rfl rfl) rfl ?_; clear hA a; intro a hA
        refine S.val hA (R.lss rfl rfl) rfl ?_; clear hA a; intro a hA
        refine S.done ?_
        replace hA : St 134 [(0, _), (1, _), (5, _), (8, _), (9, _), (10, _), (42, _)] a := hA.sub ((.cons rfl (.cons rfl (.cons rfl (.cons rfl (.cons rfl (.cons rfl (.cons rfl .nil))))))))
        refine Ends.ite hA rfl (fun hc8 => ?_) (fun hc8 => ?_)
        ·
          obtain ⟨g, off, hg, hcell⟩ := hsl.at (i := i) (by omega)
          subst hg
          have hb8 : 0 ≤ l.getD i 0 := (bd_u8 (hl8 _ (getD_mem (by omega)))).1
          refine Ends.region ?_
          refine S.val hA (R.move rfl) rfl ?_; clear hA a; intro a hA
          refine S.val hA (R.move rfl) rfl ?_; clear hA a; intro a hA
          refine S.val hA (R.indexAddr (q := off + i) sl33 rfl rfl (by omega) (by omega)) rfl ?_; clear hA a; intro a hA
          refine S.val hA (R.load sz5 rfl (hM.cell0 hcell (fun h => h))) rfl ?_; clear hA a; intro a hA
          refine S.val hA (R.assign rfl) rfl ?_; clear hA a; intro a hA
          refine S.done ?_
          replace hA : St 134 [(0, _), (1, _), (5, _), (8, _), (9, _), (10, _)] a := hA.sub ((.cons rfl (.cons rfl (.cons rfl (.cons rfl (.cons rfl (.cons rfl .nil)))))))
          refine Ends.seq ?_
          by_cases hs9 : (l.getD i 0) % 5 = 0
          ·
            obtain ⟨b, hbe⟩ : ∃ b : ByteArray, b = ⟨#[32]⟩ := ⟨_, rfl⟩
            have hbk : b ∈ blks := by rw [hbe]; simp [blks]
            have hbd := (blks_bd b hbk).2.1
            have hBi := hB (by omega)
            refine Ends.region ?_
            refine S.val hA (R.move rfl) rfl ?_; clear hA a; intro a hA
            refine S.buildSl (cells := #[.string (⟨#[32]⟩), .string (⟨#[10, 9]⟩), .string (⟨#[32, 35, 32, 114, 101, 109, 97, 114, 107, 32, 49, 10]⟩), .string (⟨#[35, 255, 10, 32]⟩), .string (⟨#[13, 10]⟩)]) hA hM Tryd.underlying34 info9 rfl rfl rfl rfl (by kernel_rfl) rfl ?_; clear hA hM a; intro b10 w6 hb11 hM a hA
            replace hM : Mem _ _ [pt b10 #[.string (⟨#[32]⟩), .string (⟨#[10, 9]⟩), .string (⟨#[32, 35, 32, 114, 101, 109, 97, 114, 107, 32, 49, 10]⟩), .string (⟨#[35, 255, 10, 32]⟩), .string (⟨#[13, 10]⟩)] 9, own 36 4 (.slice a4 (((scan s).1).length) c5) (((scan s).1).length) (tokv ((scan s).1))] _ := hM
            refine S.val hA (R.move rfl) rfl ?_; clear hA a; intro a hA
            refine S.val hA (R.remI rfl rfl (r := 0) (by omega) (by omega)) rfl ?_; clear hA a; intro a hA
            refine S.val hA (R.indexAddr (q := 0) sl34 rfl rfl (by omega) (rfl)) rfl ?_; clear hA a; intro a hA
            refine S.val hA (R.to (v := .string b) (R.load sz9 rfl (hM.cell (k := 0) rfl rfl)) (by rw [hbe]; rfl)) rfl ?_; clear hA a; intro a hA
            refine S.val hA ((R.to (v := .string (t ++ b)) (R.addS rfl rfl (by omega)) rfl)) rfl ?_; clear hA a; intro a hA
            refine S.val hA (R.assign rfl) rfl ?_; clear hA a; intro a hA
            refine S.done ?_
            replace hM := hM.drop 0
            replace hM : Mem _ _ [own 36 4 (.slice a4 (((scan s).1).length) c5) (((scan s).1).length) (tokv ((scan s).1))] _ := hM
            replace hA : St 134 [(0, _), (1, _), (5, _), (8, _), (9, _)] a := hA.sub ((.cons rfl (.cons rfl (.cons rfl (.cons rfl (.cons rfl .nil))))))
            refine Ends.seq ?_
            refine Ends.region ?_
            refine S.val hA (R.move rfl) rfl ?_; clear hA a; intro a hA
            refine S.val hA (R.move rfl) rfl ?_; clear hA a; intro a hA
            refine S.val hA (R.lenS Tryd.underlying23 rfl rfl) rfl ?_; clear hA a; intro a hA
            refine S.val hA (R.subI rfl rfl (r := (((scan s).1.length : Int)) - 1) rfl (by omega)) rfl ?_; clear hA a; intro a hA
            refine S.val hA (R.lss rfl rfl) rfl ?_; clear hA a; intro a hA
            refine S.done ?_
            replace hA : St 134 [(0, _), (1, _), (5, _), (8, _), (9, _), (58, _)] a := hA.sub ((.cons rfl (.cons rfl (.cons rfl (.cons rfl (.cons rfl (.cons rfl .nil)))))))
            refine Ends.ite hA rfl (fun hc12 => ?_) (fun hc12 => ?_)
            ·
              refine Ends.seq ?_
              obtain ⟨g13, hg13⟩ := hM.ownAt (k := 0) rfl (by omega)
              subst hg13
              replace hM : Mem _ _ [own 36 4 (.slice (some ⟨g13, 0, none⟩) (((scan s).1).length) c5) (((scan s).1).length) (tokv ((scan s).1))] _ := hM
              obtain ⟨A, d, hTK, hAd, hEs⟩ := scan_TJ he (i := i) (by omega)
              obtain ⟨E, hE⟩ : ∃ E : Nat, ((scan s).1.getD (i + 1) tz).a = (E : Int) := ⟨((scan s).1.getD (i + 1) tz).a.toNat, by omega⟩
              rw [hE] at hAd hEs
              have hmore := hBi.more hbk hTK
              refine Ends.region ?_
              refine S.val hA (R.move rfl) rfl ?_; clear hA a; intro a hA
              refine S.val hA (R.move rfl) rfl ?_; clear hA a; intro a hA
              refine S.val hA (R.addI rfl rfl (r := ((i : Int)) + 1) rfl (by omega)) rfl ?_; clear hA a; intro a hA
              refine S.val hA (R.indexAddr (q := (i + 1) * 4) sl23 rfl rfl (by omega) (by omega)) rfl ?_; clear hA a; intro a hA
              refine S.val hA (R.fieldAddr (q := (i + 1) * 4 + 3) fi36_3 rfl rfl rfl) rfl ?_; clear hA a; intro a hA
              refine S.val hA (R.to (v := .int .i64 (E : Int)) (R.load sz3 rfl (hM.tokRow (k := 0) rfl (i := (i + 1)) (by omega) 3 _ rfl)) (by rw [hE])) rfl ?_; clear hA a; intro a hA
              refine S.val hA (R.assign rfl) rfl ?_; clear hA a; intro a hA
              refine S.done ?_
              replace hA : St 134 [(0, _), (1, _), (5, _), (8, _), (9, _), (11, _)] a := hA.sub ((.cons rfl (.cons rfl (.cons rfl (.cons rfl (.cons rfl (.cons rfl .nil)))))))
              refine Ends.region ?_
              refine S.val hA (R.move rfl) rfl ?_; clear hA a; intro a hA
              refine S.val hA (R.move rfl) rfl ?_; clear hA a; intro a hA
              refine S.val hA (R.move rfl) rfl ?_; clear hA a; intro a hA
              refine S.val hA (R.move rfl) rfl ?_; clear hA a; intro a hA
              refine S.val hA (R.indexAddr (q := i * 4) sl23 rfl rfl (by omega) (by omega)) rfl ?_; clear hA a; intro a hA
              refine S.val hA (R.fieldAddr (q := i * 4 + 3) fi36_3 rfl rfl rfl) rfl ?_; clear hA a; intro a hA
              refine S.val hA (R.to (v := .int .i64 (A : Int)) (R.load sz3 rfl (hM.tokRow (k := 0) rfl (i := i) (by omega) 3 _ rfl)) (by rw [hTK.1])) rfl ?_; clear hA a; intro a hA
              refine S.val hA (R.move rfl) rfl ?_; clear hA a; intro a hA
              refine S.val hA (R.to (v := .string ((s.extract A E))) (R.sliceSS Tryd.underlying9 rfl rfl rfl (by omega)) (by first | rfl | (congr 2; done) | (congr 2 <;> omega))) rfl ?_; clear hA a; intro a hA
              refine S.call hA (R.callF Tryd.func17 rfl rfl rfl) rfl (cut_eq (s.extract A E) d (s.extract A (A + d)) (alr_TK hTK (by omega) (by omega)) (by rw [size_ext (by omega)]; omega) _) ?_; clear hA a
              rintro e w7 ⟨rfl, hb⟩
              replace hM := hM.callB hb; clear hb
              refine ⟨.string ((s.extract A (A + d))), rfl, fun a hA => ?_⟩
              refine S.val hA ((R.to (v := .string ((t ++ b) ++ s.extract A (A + d))) (R.addS rfl rfl (by have h9 := hmore.1; rw [ByteArray.size_append] at h9; omega)) rfl)) rfl ?_; clear hA a; intro a hA
              refine S.val hA (R.assign rfl) rfl ?_; clear hA a; intro a hA
              refine S.done ?_
              replace hA : St 134 [(0, _), (1, _), (5, _), (8, _), (9, _)] a := hA.sub ((.cons rfl (.cons rfl (.cons rfl (.cons rfl (.cons rfl .nil))))))
              refine Ends.inBlock ?_
              refine Ends.region ?_
              refine S.val hA (R.move rfl) rfl ?_; clear hA a; intro a hA
              refine S.val hA (R.addI rfl rfl (r := ((i : Int)) + 1) rfl (by omega)) rfl ?_; clear hA a; intro a hA
              refine S.val hA (R.assign rfl) rfl ?_; clear hA a; intro a hA
              refine S.done ?_
              replace hA : St 134 [(0, _), (1, _), (5, _), (8, _), (9, _)] a := hA.sub ((.cons rfl (.cons rfl (.cons rfl (.cons rfl (.cons rfl .nil))))))
              exact hNext ((i + 1, ((t ++ b) ++ s.extract A (A + d)))) _ _ ((by show (scan s).1.length - (i + 1) < (scan s).1.length - i; omega)) ⟨hA.sub ((.cons rfl (.cons rfl (.cons rfl (.cons rfl (.cons rfl .nil)))))), hM, (by omega), (by have := hmore.1; omega), (fun _ => hmore), (fun e => absurd e (by omega))⟩
            ·
              refine Ends.skip ?_
              refine Ends.inBlock ?_
              refine Ends.region ?_
              refine S.val hA (R.move rfl) rfl ?_; clear hA a; intro a hA
              refine S.val hA (R.addI rfl rfl (r := ((i : Int)) + 1) rfl (by omega)) rfl ?_; clear hA a; intro a hA
              refine S.val hA (R.assign rfl) rfl ?_; clear hA a; intro a hA
              refine S.done ?_
              replace hA : St 134 [(0, _), (1, _), (5, _), (8, _), (9, _)] a := hA.sub ((.cons rfl (.cons rfl (.cons rfl (.cons rfl (.cons rfl .nil))))))
              exact hNext ((i + 1, t ++ b)) _ _ ((by show (scan s).1.length - (i + 1) < (scan s).1.length - i; omega)) ⟨hA.sub ((.cons rfl (.cons rfl (.cons rfl (.cons rfl (.cons rfl .nil)))))), hM, (by omega), (by rw [ByteArray.size_append]; omega), (fun e => absurd e (by omega)), (fun _ => by obtain ⟨m, h1, h2, h3⟩ := hBi.last hbk (by omega); exact ⟨m, by omega, fun j hj => h2 j (by omega), h3⟩)⟩
          ·
            by_cases hs14 : (l.getD i 0) % 5 = 1
            ·
              obtain ⟨b, hbe⟩ : ∃ b : ByteArray, b = ⟨#[10, 9]⟩ := ⟨_, rfl⟩
              have hbk : b ∈ blks := by rw [hbe]; simp [blks]
              have hbd := (blks_bd b hbk).2.1
              have hBi := hB (by omega)
              refine Ends.region ?_
              refine S.val hA (R.move rfl) rfl ?_; clear hA a; intro a hA
              refine S.buildSl (cells := #[.string (⟨#[32]⟩), .string (⟨#[10, 9]⟩), .string (⟨#[32, 35, 32, 114, 101, 109, 97, 114, 107, 32, 49, 10]⟩), .string (⟨#[35, 255, 10, 32]⟩), .string (⟨#[13, 10]⟩)]) hA hM Tryd.underlying34 info9 rfl rfl rfl rfl (by kernel_rfl) rfl ?_; clear hA hM a; intro b15 w8 hb16 hM a hA
              replace hM : Mem _ _ [pt b15 #[.string (⟨#[32]⟩), .string (⟨#[10, 9]⟩), .string (⟨#[32, 35, 32, 114, 101, 109, 97, 114, 107, 32, 49, 10]⟩), .string (⟨#[35, 255, 10, 32]⟩), .string (⟨#[13, 10]⟩)] 9, own 36 4 (.slice a4 (((scan s).1).length) c5) (((scan s).1).length) (tokv ((scan s).1))] _ := hM
              refine S.val hA (R.move rfl) rfl ?_; clear hA a; intro a hA
              refine S.val hA (R.remI rfl rfl (r := 1) (by omega) (by omega)) rfl ?_; clear hA a; intro a hA
              refine S.val hA (R.indexAddr (q := 1) sl34 rfl rfl (by omega) (rfl)) rfl ?_; clear hA a; intro a hA
              refine S.val hA (R.to (v := .string b) (R.load sz9 rfl (hM.cell (k := 0) rfl rfl)) (by rw [hbe]; rfl)) rfl ?_; clear hA a; intro a hA
              refine S.val hA ((R.to (v := .string (t ++ b)) (R.addS rfl rfl (by omega)) rfl)) rfl ?_; clear hA a; intro a hA
              refine S.val hA (R.assign rfl) rfl ?_; clear hA a; intro a hA
              refine S.done ?_
              replace hM := hM.drop 0
              replace hM : Mem _ _ [own 36 4 (.slice a4 (((scan s).1).length) c5) (((scan s).1).length) (tokv ((scan s).1))] _ := hM
              replace hA : St 134 [(0, _), (1, _), (5, _), (8, _), (9, _)] a := hA.sub ((.cons rfl (.cons rfl (.cons rfl (.cons rfl (.cons rfl .nil))))))
              refine Ends.seq ?_
              refine Ends.region ?_
              refine S.val hA (R.move rfl) rfl ?_; clear hA a; intro a hA
              refine S.val hA (R.move rfl) rfl ?_; clear hA a; intro a hA
              refine S.val hA (R.lenS Tryd.underlying23 rfl rfl) rfl ?_; clear hA a; intro a hA
              refine S.val hA (R.subI rfl rfl (r := (((scan s).1.length : Int)) - 1) rfl (by omega)) rfl ?_; clear hA a; intro a hA
              refine S.val hA (R.lss rfl rfl) rfl ?_; clear hA a; intro a hA
              refine S.done ?_
              replace hA : St 134 [(0, _), (1, _), (5, _), (8, _), (9, _), (58, _)] a := hA.sub ((.cons rfl (.cons rfl (.cons rfl (.cons rfl (.cons rfl (.cons rfl .nil)))))))
              refine Ends.ite hA rfl (fun hc17 => ?_) (fun hc17 => ?_)
              ·
                refine Ends.seq ?_
                obtain ⟨g18, hg18⟩ := hM.ownAt (k := 0) rfl (by omega)
                subst hg18
                replace hM : Mem _ _ [own 36 4 (.slice (some ⟨g18, 0, none⟩) (((scan s).1).length) c5) (((scan s).1).length) (tokv ((scan s).1))] _ := hM
                obtain ⟨A, d, hTK, hAd, hEs⟩ := scan_TJ he (i := i) (by omega)
                obtain ⟨E, hE⟩ : ∃ E : Nat, ((scan s).1.getD (i + 1) tz).a = (E : Int) := ⟨((scan s).1.getD (i + 1) tz).a.toNat, by omega⟩
                rw [hE] at hAd hEs
                have hmore := hBi.more hbk hTK
                refine Ends.region ?_
                refine S.val hA (R.move rfl) rfl ?_; clear hA a; intro a hA
                refine S.val hA (R.move rfl) rfl ?_; clear hA a; intro a hA
                refine S.val hA (R.addI rfl rfl (r := ((i : Int)) + 1) rfl (by omega)) rfl ?_; clear hA a; intro a hA
                refine S.val hA (R.indexAddr (q := (i + 1) * 4) sl23 rfl rfl (by omega) (by omega)) rfl ?_; clear hA a; intro a hA
                refine S.val hA (R.fieldAddr (q := (i + 1) * 4 + 3) fi36_3 rfl rfl rfl) rfl ?_; clear hA a; intro a hA
                refine S.val hA (R.to (v := .int .i64 (E : Int)) (R.load sz3 rfl (hM.tokRow (k := 0) rfl (i := (i + 1)) (by omega) 3 _ rfl)) (by rw [hE])) rfl ?_; clear hA a; intro a hA
                refine S.val hA (R.assign rfl) rfl ?_; clear hA a; intro a hA
                refine S.done ?_
                replace hA : St 134 [(0, _), (1, _), (5, _), (8, _), (9, _), (11, _)] a := hA.sub ((.cons rfl (.cons rfl (.cons rfl (.cons rfl (.cons rfl (.cons rfl .nil)))))))
                refine Ends.region ?_
                refine S.val hA (R.move rfl) rfl ?_; clear hA a; intro a hA
                refine S.val hA (R.move rfl) rfl ?_; clear hA a; intro a hA
                refine S.val hA (R.move rfl) rfl ?_; clear hA a; intro a hA
                refine S.val hA (R.move rfl) rfl ?_; clear hA a; intro a hA
                refine S.val hA (R.indexAddr (q := i * 4) sl23 rfl rfl (by omega) (by omega)) rfl ?_; clear hA a; intro a hA
                refine S.val hA (R.fieldAddr (q := i * 4 + 3) fi36_3 rfl rfl rfl) rfl ?_; clear hA a; intro a hA
                refine S.val hA (R.to (v := .int .i64 (A : Int)) (R.load sz3 rfl (hM.tokRow (k := 0) rfl (i := i) (by omega) 3 _ rfl)) (by rw [hTK.1])) rfl ?_; clear hA a; intro a hA
                refine S.val hA (R.move rfl) rfl ?_; clear hA a; intro a hA
                refine S.val hA (R.to (v := .string ((s.extract A E))) (R.sliceSS Tryd.underlying9 rfl rfl rfl (by omega)) (by first | rfl | (congr 2; done) | (congr 2 <;> omega))) rfl ?_; clear hA a; intro a hA
                refine S.call hA (R.callF Tryd.func17 rfl rfl rfl) rfl (cut_eq (s.extract A E) d (s.extract A (A + d)) (alr_TK hTK (by omega) (by omega)) (by rw [size_ext (by omega)]; omega) _) ?_; clear hA a
                rintro e w9 ⟨rfl, hb⟩
                replace hM := hM.callB hb; clear hb
                refine ⟨.string ((s.extract A (A + d))), rfl, fun a hA => ?_⟩
                refine S.val hA ((R.to (v := .string ((t ++ b) ++ s.extract A (A + d))) (R.addS rfl rfl (by have h9 := hmore.1; rw [ByteArray.size_append] at h9; omega)) rfl)) rfl ?_; clear hA a; intro a hA
                refine S.val hA (R.assign rfl) rfl ?_; clear hA a; intro a hA
                refine S.done ?_
                replace hA : St 134 [(0, _), (1, _), (5, _), (8, _), (9, _)] a := hA.sub ((.cons rfl (.cons rfl (.cons rfl (.cons rfl (.cons rfl .nil))))))
                refine Ends.inBlock ?_
                refine Ends.region ?_
                refine S.val hA (R.move rfl) rfl ?_; clear hA a; intro a hA
                refine S.val hA (R.addI rfl rfl (r := ((i : Int)) + 1) rfl (by omega)) rfl ?_; clear hA a; intro a hA
                refine S.val hA (R.assign rfl) rfl ?_; clear hA a; intro a hA
                refine S.done ?_
                replace hA : St 134 [(0, _), (1, _), (5, _), (8, _), (9, _)] a := hA.sub ((.cons rfl (.cons rfl (.cons rfl (.cons rfl (.cons rfl .nil))))))
                exact hNext ((i + 1, ((t ++ b) ++ s.extract A (A + d)))) _ _ ((by show (scan s).1.length - (i + 1) < (scan s).1.length - i; omega)) ⟨hA.sub ((.cons rfl (.cons rfl (.cons rfl (.cons rfl (.cons rfl .nil)))))), hM, (by omega), (by have := hmore.1; omega), (fun _ => hmore), (fun e => absurd e (by omega))⟩
              ·
                refine Ends.skip ?_
                refine Ends.inBlock ?_
                refine Ends.region ?_
                refine S.val hA (R.move rfl) rfl ?_; clear hA a; intro a hA
                refine S.val hA (R.addI rfl rfl (r := ((i : Int)) + 1) rfl (by omega)) rfl ?_; clear hA a; intro a hA
                refine S.val hA (R.assign rfl) rfl ?_; clear hA a; intro a hA
                refine S.done ?_
                replace hA : St 134 [(0, _), (1, _), (5, _), (8, _), (9, _)] a := hA.sub ((.cons rfl (.cons rfl (.cons rfl (.cons rfl (.cons rfl .nil))))))
                exact hNext ((i + 1, t ++ b)) _ _ ((by show (scan s).1.length - (i + 1) < (scan s).1.length - i; omega)) ⟨hA.sub ((.cons rfl (.cons rfl (.cons rfl (.cons rfl (.cons rfl .nil)))))), hM, (by omega), (by rw [ByteArray.size_append]; omega), (fun e => absurd e (by omega)), (fun _ => by obtain ⟨m, h1, h2, h3⟩ := hBi.last hbk (by omega); exact ⟨m, by omega, fun j hj => h2 j (by omega), h3⟩)⟩
            ·
              by_cases hs19 : (l.getD i 0) % 5 = 2
              ·
                obtain ⟨b, hbe⟩ : ∃ b : ByteArray, b = ⟨#[32, 35, 32, 114, 101, 109, 97, 114, 107, 32, 49, 10]⟩ := ⟨_, rfl⟩
                have hbk : b ∈ blks := by rw [hbe]; simp [blks]
                have hbd := (blks_bd b hbk).2.1
                have hBi := hB (by omega)
                refine Ends.region ?_
                refine S.val hA (R.move rfl) rfl ?_; clear hA a; intro a hA
                refine S.buildSl (cells := #[.string (⟨#[32]⟩), .string (⟨#[10, 9]⟩), .string (⟨#[32, 35, 32, 114, 101, 109, 97, 114, 107, 32, 49, 10]⟩), .string (⟨#[35, 255, 10, 32]⟩), .string (⟨#[13, 10]⟩)]) hA hM Tryd.underlying34 info9 rfl rfl rfl rfl (by kernel_rfl) rfl ?_; clear hA hM a; intro b20 w10 hb21 hM a hA
                replace hM : Mem _ _ [pt b20 #[.string (⟨#[32]⟩), .string (⟨#[10, 9]⟩), .string (⟨#[32, 35, 32, 114, 101, 109, 97, 114, 107, 32, 49, 10]⟩), .string (⟨#[35, 255, 10, 32]⟩), .string (⟨#[13, 10]⟩)] 9, own 36 4 (.slice a4 (((scan s).1).length) c5) (((scan s).1).length) (tokv ((scan s).1))] _ := hM
                refine S.val hA (R.move rfl) rfl ?_; clear hA a; intro a hA
                refine S.val hA (R.remI rfl rfl (r := 2) (by omega) (by omega)) rfl ?_; clear hA a; intro a hA
                refine S.val hA (R.indexAddr (q := 2) sl34 rfl rfl (by omega) (rfl)) rfl ?_; clear hA a; intro a hA
                refine S.val hA (R.to (v := .string b) (R.load sz9 rfl (hM.cell (k := 0) rfl rfl)) (by rw [hbe]; rfl)) rfl ?_; clear hA a; intro a hA
                refine S.val hA ((R.to (v := .string (t ++ b)) (R.addS rfl rfl (by omega)) rfl)) rfl ?_; clear hA a; intro a hA
                refine S.val hA (R.assign rfl) rfl ?_; clear hA a; intro a hA
                refine S.done ?_
                replace hM := hM.drop 0
                replace hM : Mem _ _ [own 36 4 (.slice a4 (((scan s).1).length) c5) (((scan s).1).length) (tokv ((scan s).1))] _ := hM
                replace hA : St 134 [(0, _), (1, _), (5, _), (8, _), (9, _)] a := hA.sub ((.cons rfl (.cons rfl (.cons rfl (.cons rfl (.cons rfl .nil))))))
                refine Ends.seq ?_
                refine Ends.region ?_
                refine S.val hA (R.move rfl) rfl ?_; clear hA a; intro a hA
                refine S.val hA (R.move rfl) rfl ?_; clear hA a; intro a hA
                refine S.val hA (R.lenS Tryd.underlying23 rfl rfl) rfl ?_; clear hA a; intro a hA
                refine S.val hA (R.subI rfl rfl (r := (((scan s).1.length : Int)) - 1) rfl (by omega)) rfl ?_; clear hA a; intro a hA
                refine S.val hA (R.lss rfl rfl) rfl ?_; clear hA a; intro a hA
                refine S.done ?_
                replace hA : St 134 [(0, _), (1, _), (5, _), (8, _), (9, _), (58, _)] a := hA.sub ((.cons rfl (.cons rfl (.cons rfl (.cons rfl (.cons rfl (.cons rfl .nil)))))))
                refine Ends.ite hA rfl (fun hc22 => ?_) (fun hc22 => ?_)
                ·
                  refine Ends.seq ?_
                  obtain ⟨g23, hg23⟩ := hM.ownAt (k := 0) rfl (by omega)
                  subst hg23
                  replace hM : Mem _ _ [own 36 4 (.slice (some ⟨g23, 0, none⟩) (((scan s).1).length) c5) (((scan s).1).length) (tokv ((scan s).1))] _ := hM
                  obtain ⟨A, d, hTK, hAd, hEs⟩ := scan_TJ he (i := i) (by omega)
                  obtain ⟨E, hE⟩ : ∃ E : Nat, ((scan s).1.getD (i + 1) tz).a = (E : Int) := ⟨((scan s).1.getD (i + 1) tz).a.toNat, by omega⟩
                  rw [hE] at hAd hEs
                  have hmore := hBi.more hbk hTK
                  refine Ends.region ?_
                  refine S.val hA (R.move rfl) rfl ?_; clear hA a; intro a hA
                  refine S.val hA (R.move rfl) rfl ?_; clear hA a; intro a hA
                  refine S.val hA (R.addI rfl rfl (r := ((i : Int)) + 1) rfl (by omega)) rfl ?_; clear hA a; intro a hA
                  refine S.val hA (R.indexAddr (q := (i + 1) * 4) sl23 rfl rfl (by omega) (by omega)) rfl ?_; clear hA a; intro a hA
                  refine S.val hA (R.fieldAddr (q := (i + 1) * 4 + 3) fi36_3 rfl rfl rfl) rfl ?_; clear hA a; intro a hA
                  refine S.val hA (R.to (v := .int .i64 (E : Int)) (R.load sz3 rfl (hM.tokRow (k := 0) rfl (i := (i + 1)) (by omega) 3 _ rfl)) (by rw [hE])) rfl ?_; clear hA a; intro a hA
                  refine S.val hA (R.assign rfl) rfl ?_; clear hA a; intro a hA
                  refine S.done ?_
                  replace hA : St 134 [(0, _), (1, _), (5, _), (8, _), (9, _), (11, _)] a := hA.sub ((.cons rfl (.cons rfl (.cons rfl (.cons rfl (.cons rfl (.cons rfl .nil)))))))
                  refine Ends.region ?_
                  refine S.val hA (R.move rfl) rfl ?_; clear hA a; intro a hA
                  refine S.val hA (R.move rfl) rfl ?_; clear hA a; intro a hA
                  refine S.val hA (R.move rfl) rfl ?_; clear hA a; intro a hA
                  refine S.val hA (R.move rfl) rfl ?_; clear hA a; intro a hA
                  refine S.val hA (R.indexAddr (q := i * 4) sl23 rfl rfl (by omega) (by omega)) rfl ?_; clear hA a; intro a hA
                  refine S.val hA (R.fieldAddr (q := i * 4 + 3) fi36_3 rfl rfl rfl) rfl ?_; clear hA a; intro a hA
                  refine S.val hA (R.to (v := .int .i64 (A : Int)) (R.load sz3 rfl (hM.tokRow (k := 0) rfl (i := i) (by omega) 3 _ rfl)) (by rw [hTK.1])) rfl ?_; clear hA a; intro a hA
                  refine S.val hA (R.move rfl) rfl ?_; clear hA a; intro a hA
                  refine S.val hA (R.to (v := .string ((s.extract A E))) (R.sliceSS Tryd.underlying9 rfl rfl rfl (by omega)) (by first | rfl | (congr 2; done) | (congr 2 <;> omega))) rfl ?_; clear hA a; intro a hA
                  refine S.call hA (R.callF Tryd.func17 rfl rfl rfl) rfl (cut_eq (s.extract A E) d (s.extract A (A + d)) (alr_TK hTK (by omega) (by omega)) (by rw [size_ext (by omega)]; omega) _) ?_; clear hA a
                  rintro e w11 ⟨rfl, hb⟩
                  replace hM := hM.callB hb; clear hb
                  refine ⟨.string ((s.extract A (A + d))), rfl, fun a hA => ?_⟩
                  refine S.val hA ((R.to (v := .string ((t ++ b) ++ s.extract A (A + d))) (R.addS rfl rfl (by have h9 := hmore.1; rw [ByteArray.size_append] at h9; omega)) rfl)) rfl ?_; clear hA a; intro a hA
                  refine S.val hA (R.assign rfl) rfl ?_; clear hA a; intro a hA
                  refine S.done ?_
                  replace hA : St 134 [(0, _), (1, _), (5, _), (8, _), (9, _)] a := hA.sub ((.cons rfl (.cons rfl (.cons rfl (.cons rfl (.cons rfl .nil))))))
                  refine Ends.inBlock ?_
                  refine Ends.region ?_
                  refine S.val hA (R.move rfl) rfl ?_; clear hA a; intro a hA
                  refine S.val hA (R.addI rfl rfl (r := ((i : Int)) + 1) rfl (by omega)) rfl ?_; clear hA a; intro a hA
                  refine S.val hA (R.assign rfl) rfl ?_; clear hA a; intro a hA
                  refine S.done ?_
                  replace hA : St 134 [(0, _), (1, _), (5, _), (8, _), (9, _)] a := hA.sub ((.cons rfl (.cons rfl (.cons rfl (.cons rfl (.cons rfl .nil))))))
                  exact hNext ((i + 1, ((t ++ b) ++ s.extract A (A + d)))) _ _ ((by show (scan s).1.length - (i + 1) < (scan s).1.length - i; omega)) ⟨hA.sub ((.cons rfl (.cons rfl (.cons rfl (.cons rfl (.cons rfl .nil)))))), hM, (by omega), (by have := hmore.1; omega), (fun _ => hmore), (fun e => absurd e (by omega))⟩
                ·
                  refine Ends.skip ?_
                  refine Ends.inBlock ?_
                  refine Ends.region ?_
                  refine S.val hA (R.move rfl) rfl ?_; clear hA a; intro a hA
                  refine S.val hA (R.addI rfl rfl (r := ((i : Int)) + 1) rfl (by omega)) rfl ?_; clear hA a; intro a hA
                  refine S.val hA (R.assign rfl) rfl ?_; clear hA a; intro a hA
                  refine S.done ?_
                  replace hA : St 134 [(0, _), (1, _), (5, _), (8, _), (9, _)] a := hA.sub ((.cons rfl (.cons rfl (.cons rfl (.cons rfl (.cons rfl .nil))))))
                  exact hNext ((i + 1, t ++ b)) _ _ ((by show (scan s).1.length - (i + 1) < (scan s).1.length - i; omega)) ⟨hA.sub ((.cons rfl (.cons rfl (.cons rfl (.cons rfl (.cons rfl .nil)))))), hM, (by omega), (by rw [ByteArray.size_append]; omega), (fun e => absurd e (by omega)), (fun _ => by obtain ⟨m, h1, h2, h3⟩ := hBi.last hbk (by omega); exact ⟨m, by omega, fun j hj => h2 j (by omega), h3⟩)⟩
              ·
                by_cases hs24 : (l.getD i 0) % 5 = 3
                ·
                  obtain ⟨b, hbe⟩ : ∃ b : ByteArray, b = ⟨#[35, 255, 10, 32]⟩ := ⟨_, rfl⟩
                  have hbk : b ∈ blks := by rw [hbe]; simp [blks]
                  have hbd := (blks_bd b hbk).2.1
                  have hBi := hB (by omega)
                  refine Ends.region ?_
                  refine S.val hA (R.move rfl) rfl ?_; clear hA a; intro a hA
                  refine S.buildSl (cells := #[.string (⟨#[32]⟩), .string (⟨#[10, 9]⟩), .string (⟨#[32, 35, 32, 114, 101, 109, 97, 114, 107, 32, 49, 10]⟩), .string (⟨#[35, 255, 10, 32]⟩), .string (⟨#[13, 10]⟩)]) hA hM Tryd.underlying34 info9 rfl rfl rfl rfl (by kernel_rfl) rfl ?_; clear hA hM a; intro b25 w12 hb26 hM a hA
                  replace hM : Mem _ _ [pt b25 #[.string (⟨#[32]⟩), .string (⟨#[10, 9]⟩), .string (⟨#[32, 35, 32, 114, 101, 109, 97, 114, 107, 32, 49, 10]⟩), .string (⟨#[35, 255, 10, 32]⟩), .string (⟨#[13, 10]⟩)] 9, own 36 4 (.slice a4 (((scan s).1).length) c5) (((scan s).1).length) (tokv ((scan s).1))] _ := hM
                  refine S.val hA (R.move rfl) rfl ?_; clear hA a; intro a hA
                  refine S.val hA (R.remI rfl rfl (r := 3) (by omega) (by omega)) rfl ?_; clear hA a; intro a hA
                  refine S.val hA (R.indexAddr (q := 3) sl34 rfl rfl (by omega) (rfl)) rfl ?_; clear hA a; intro a hA
                  refine S.val hA (R.to (v := .string b) (R.load sz9 rfl (hM.cell (k := 0) rfl rfl)) (by rw [hbe]; rfl)) rfl ?_; clear hA a; intro a hA
                  refine S.val hA ((R.to (v := .string (t ++ b)) (R.addS rfl rfl (by omega)) rfl)) rfl ?_; clear hA a; intro a hA
                  refine S.val hA (R.assign rfl) rfl ?_; clear hA a; intro a hA
                  refine S.done ?_
                  replace hM := hM.drop 0
                  replace hM : Mem _ _ [own 36 4 (.slice a4 (((scan s).1).length) c5) (((scan s).1).length) (tokv ((scan s).1))] _ := hM
                  replace hA : St 134 [(0, _), (1, _), (5, _), (8, _), (9, _)] a := hA.sub ((.cons rfl (.cons rfl (.cons rfl (.cons rfl (.cons rfl .nil))))))
                  refine Ends.seq ?_
                  refine Ends.region ?_
                  refine S.val hA (R.move rfl) rfl ?_; clear hA a; intro a hA
                  refine S.val hA (R.move rfl) rfl ?_; clear hA a; intro a hA
                  refine S.val hA (R.lenS Tryd.underlying23 rfl rfl) rfl ?_; clear hA a; intro a hA
                  refine S.val hA (R.subI rfl rfl (r := (((scan s).1.length : Int)) - 1) rfl (by omega)) rfl ?_; clear hA a; intro a hA
                  refine S.val hA (R.lss rfl rfl) rfl ?_; clear hA a; intro a hA
                  refine S.done ?_
                  replace hA : St 134 [(0, _), (1, _), (5, _), (8, _), (9, _), (58, _)] a := hA.sub ((.cons rfl (.cons rfl (.cons rfl (.cons rfl (.cons rfl (.cons rfl .nil)))))))
                  refine Ends.ite hA rfl (fun hc27 => ?_) (fun hc27 => ?_)
                  ·
                    refine Ends.seq ?_
                    obtain ⟨g28, hg28⟩ := hM.ownAt (k := 0) rfl (by omega)
                    subst hg28
                    replace hM : Mem _ _ [own 36 4 (.slice (some ⟨g28, 0, none⟩) (((scan s).1).length) c5) (((scan s).1).length) (tokv ((scan s).1))] _ := hM
                    obtain ⟨A, d, hTK, hAd, hEs⟩ := scan_TJ he (i := i) (by omega)
                    obtain ⟨E, hE⟩ : ∃ E : Nat, ((scan s).1.getD (i + 1) tz).a = (E : Int) := ⟨((scan s).1.getD (i + 1) tz).a.toNat, by omega⟩
                    rw [hE] at hAd hEs
                    have hmore := hBi.more hbk hTK
                    refine Ends.region ?_
                    refine S.val hA (R.move rfl) rfl ?_; clear hA a; intro a hA
                    refine S.val hA (R.move rfl) rfl ?_; clear hA a; intro a hA
                    refine S.val hA (R.addI rfl rfl (r := ((i : Int)) + 1) rfl (by omega)) rfl ?_; clear hA a; intro a hA
                    refine S.val hA (R.indexAddr (q := (i + 1) * 4) sl23 rfl rfl (by omega) (by omega)) rfl ?_; clear hA a; intro a hA
                    refine S.val hA (R.fieldAddr (q := (i + 1) * 4 + 3) fi36_3 rfl rfl rfl) rfl ?_; clear hA a; intro a hA
                    refine S.val hA (R.to (v := .int .i64 (E : Int)) (R.load sz3 rfl (hM.tokRow (k := 0) rfl (i := (i + 1)) (by omega) 3 _ rfl)) (by rw [hE])) rfl ?_; clear hA a; intro a hA
                    refine S.val hA (R.assign rfl) rfl ?_; clear hA a; intro a hA
                    refine S.done ?_
                    replace hA : St 134 [(0, _), (1, _), (5, _), (8, _), (9, _), (11, _)] a := hA.sub ((.cons rfl (.cons rfl (.cons rfl (.cons rfl (.cons rfl (.cons rfl .nil)))))))
                    refine Ends.region ?_
                    refine S.val hA (R.move rfl) rfl ?_; clear hA a; intro a hA
                    refine S.val hA (R.move rfl) rfl ?_; clear hA a; intro a hA
                    refine S.val hA (R.move rfl) rfl ?_; clear hA a; intro a hA
                    refine S.val hA (R.move rfl) rfl ?_; clear hA a; intro a hA
                    refine S.val hA (R.indexAddr (q := i * 4) sl23 rfl rfl (by omega) (by omega)) rfl ?_; clear hA a; intro a hA
                    refine S.val hA (R.fieldAddr (q := i * 4 + 3) fi36_3 rfl rfl rfl) rfl ?_; clear hA a; intro a hA
                    refine S.val hA (R.to (v := .int .i64 (A : Int)) (R.load sz3 rfl (hM.tokRow (k := 0) rfl (i := i) (by omega) 3 _ rfl)) (by rw [hTK.1])) rfl ?_; clear hA a; intro a hA
                    refine S.val hA (R.move rfl) rfl ?_; clear hA a; intro a hA
                    refine S.val hA (R.to (v := .string ((s.extract A E))) (R.sliceSS Tryd.underlying9 rfl rfl rfl (by omega)) (by first | rfl | (congr 2; done) | (congr 2 <;> omega))) rfl ?_; clear hA a; intro a hA
                    refine S.call hA (R.callF Tryd.func17 rfl rfl rfl) rfl (cut_eq (s.extract A E) d (s.extract A (A + d)) (alr_TK hTK (by omega) (by omega)) (by rw [size_ext (by omega)]; omega) _) ?_; clear hA a
                    rintro e w13 ⟨rfl, hb⟩
                    replace hM := hM.callB hb; clear hb
                    refine ⟨.string ((s.extract A (A + d))), rfl, fun a hA => ?_⟩
                    refine S.val hA ((R.to (v := .string ((t ++ b) ++ s.extract A (A + d))) (R.addS rfl rfl (by have h9 := hmore.1; rw [ByteArray.size_append] at h9; omega)) rfl)) rfl ?_; clear hA a; intro a hA
                    refine S.val hA (R.assign rfl) rfl ?_; clear hA a; intro a hA
                    refine S.done ?_
                    replace hA : St 134 [(0, _), (1, _), (5, _), (8, _), (9, _)] a := hA.sub ((.cons rfl (.cons rfl (.cons rfl (.cons rfl (.cons rfl .nil))))))
                    refine Ends.inBlock ?_
                    refine Ends.region ?_
                    refine S.val hA (R.move rfl) rfl ?_; clear hA a; intro a hA
                    refine S.val hA (R.addI rfl rfl (r := ((i : Int)) + 1) rfl (by omega)) rfl ?_; clear hA a; intro a hA
                    refine S.val hA (R.assign rfl) rfl ?_; clear hA a; intro a hA
                    refine S.done ?_
                    replace hA : St 134 [(0, _), (1, _), (5, _), (8, _), (9, _)] a := hA.sub ((.cons rfl (.cons rfl (.cons rfl (.cons rfl (.cons rfl .nil))))))
                    exact hNext ((i + 1, ((t ++ b) ++ s.extract A (A + d)))) _ _ ((by show (scan s).1.length - (i + 1) < (scan s).1.length - i; omega)) ⟨hA.sub ((.cons rfl (.cons rfl (.cons rfl (.cons rfl (.cons rfl .nil)))))), hM, (by omega), (by have := hmore.1; omega), (fun _ => hmore), (fun e => absurd e (by omega))⟩
                  ·
                    refine Ends.skip ?_
                    refine Ends.inBlock ?_
                    refine Ends.region ?_
                    refine S.val hA (R.move rfl) rfl ?_; clear hA a; intro a hA
                    refine S.val hA (R.addI rfl rfl (r := ((i : Int)) + 1) rfl (by omega)) rfl ?_; clear hA a; intro a hA
                    refine S.val hA (R.assign rfl) rfl ?_; clear hA a; intro a hA
                    refine S.done ?_
                    replace hA : St 134 [(0, _), (1, _), (5, _), (8, _), (9, _)] a := hA.sub ((.cons rfl (.cons rfl (.cons rfl (.cons rfl (.cons rfl .nil))))))
                    exact hNext ((i + 1, t ++ b)) _ _ ((by show (scan s).1.length - (i + 1) < (scan s).1.length - i; omega)) ⟨hA.sub ((.cons rfl (.cons rfl (.cons rfl (.cons rfl (.cons rfl .nil)))))), hM, (by omega), (by rw [ByteArray.size_append]; omega), (fun e => absurd e (by omega)), (fun _ => by obtain ⟨m, h1, h2, h3⟩ := hBi.last hbk (by omega); exact ⟨m, by omega, fun j hj => h2 j (by omega), h3⟩)⟩
                ·
                  obtain ⟨b, hbe⟩ : ∃ b : ByteArray, b = ⟨#[13, 10]⟩ := ⟨_, rfl⟩
                  have hbk : b ∈ blks := by rw [hbe]; simp [blks]
                  have hbd := (blks_bd b hbk).2.1
                  have hBi := hB (by omega)
                  refine Ends.region ?_
                  refine S.val hA (R.move rfl) rfl ?_; clear hA a; intro a hA
                  refine S.buildSl (cells := #[.string (⟨#[32]⟩), .string (⟨#[10, 9]⟩), .string (⟨#[32, 35, 32, 114, 101, 109, 97, 114, 107, 32, 49, 10]⟩), .string (⟨#[35, 255, 10, 32]⟩), .string (⟨#[13, 10]⟩)]) hA hM Tryd.underlying34 info9 rfl rfl rfl rfl (by kernel_rfl) rfl ?_; clear hA hM a; intro b29 w14 hb30 hM a hA
                  replace hM : Mem _ _ [pt b29 #[.string (⟨#[32]⟩), .string (⟨#[10, 9]⟩), .string (⟨#[32, 35, 32, 114, 101, 109, 97, 114, 107, 32, 49, 10]⟩), .string (⟨#[35, 255, 10, 32]⟩), .string (⟨#[13, 10]⟩)] 9, own 36 4 (.slice a4 (((scan s).1).length) c5) (((scan s).1).length) (tokv ((scan s).1))] _ := hM
                  refine S.val hA (R.move rfl) rfl ?_; clear hA a; intro a hA
                  refine S.val hA (R.remI rfl rfl (r := 4) (by omega) (by omega)) rfl ?_; clear hA a; intro a hA
                  refine S.val hA (R.indexAddr (q := 4) sl34 rfl rfl (by omega) (rfl)) rfl ?_; clear hA a; intro a hA
                  refine S.val hA (R.to (v := .string b) (R.load sz9 rfl (hM.cell (k := 0) rfl rfl)) (by rw [hbe]; rfl)) rfl ?_; clear hA a; intro a hA
                  refine S.val hA ((R.to (v := .string (t ++ b)) (R.addS rfl rfl (by omega)) rfl)) rfl ?_; clear hA a; intro a hA
                  refine S.val hA (R.assign rfl) rfl ?_; clear hA a; intro a hA
                  refine S.done ?_
                  replace hM := hM.drop 0
                  replace hM : Mem _ _ [own 36 4 (.slice a4 (((scan s).1).length) c5) (((scan s).1).length) (tokv ((scan s).1))] _ := hM
                  replace hA : St 134 [(0, _), (1, _), (5, _), (8, _), (9, _)] a := hA.sub ((.cons rfl (.cons rfl (.cons rfl (.cons rfl (.cons rfl .nil))))))
                  refine Ends.seq ?_
                  refine Ends.region ?_
                  refine S.val hA (R.move rfl) rfl ?_; clear hA a; intro a hA
                  refine S.val hA (R.move rfl) rfl ?_; clear hA a; intro a hA
                  refine S.val hA (R.lenS Tryd.underlying23 rfl rfl) rfl ?_; clear hA a; intro a hA
                  refine S.val hA (R.subI rfl rfl (r := (((scan s).1.length : Int)) - 1) rfl (by omega)) rfl ?_; clear hA a; intro a hA
                  refine S.val hA (R.lss rfl rfl) rfl ?_; clear hA a; intro a hA
                  refine S.done ?_
                  replace hA : St 134 [(0, _), (1, _), (5, _), (8, _), (9, _), (58, _)] a := hA.sub ((.cons rfl (.cons rfl (.cons rfl (.cons rfl (.cons rfl (.cons rfl .nil)))))))
                  refine Ends.ite hA rfl (fun hc31 => ?_) (fun hc31 => ?_)
                  ·
                    refine Ends.seq ?_
                    obtain ⟨g32, hg32⟩ := hM.ownAt (k := 0) rfl (by omega)
                    subst hg32
                    replace hM : Mem _ _ [own 36 4 (.slice (some ⟨g32, 0, none⟩) (((scan s).1).length) c5) (((scan s).1).length) (tokv ((scan s).1))] _ := hM
                    obtain ⟨A, d, hTK, hAd, hEs⟩ := scan_TJ he (i := i) (by omega)
                    obtain ⟨E, hE⟩ : ∃ E : Nat, ((scan s).1.getD (i + 1) tz).a = (E : Int) := ⟨((scan s).1.getD (i + 1) tz).a.toNat, by omega⟩
                    rw [hE] at hAd hEs
                    have hmore := hBi.more hbk hTK
                    refine Ends.region ?_
                    refine S.val hA (R.move rfl) rfl ?_; clear hA a; intro a hA
                    refine S.val hA (R.move rfl) rfl ?_; clear hA a; intro a hA
                    refine S.val hA (R.addI rfl rfl (r := ((i : Int)) + 1) rfl (by omega)) rfl ?_; clear hA a; intro a hA
                    refine S.val hA (R.indexAddr (q := (i + 1) * 4) sl23 rfl rfl (by omega) (by omega)) rfl ?_; clear hA a; intro a hA
                    refine S.val hA (R.fieldAddr (q := (i + 1) * 4 + 3) fi36_3 rfl rfl rfl) rfl ?_; clear hA a; intro a hA
                    refine S.val hA (R.to (v := .int .i64 (E : Int)) (R.load sz3 rfl (hM.tokRow (k := 0) rfl (i := (i + 1)) (by omega) 3 _ rfl)) (by rw [hE])) rfl ?_; clear hA a; intro a hA
                    refine S.val hA (R.assign rfl) rfl ?_; clear hA a; intro a hA
                    refine S.done ?_
                    replace hA : St 134 [(0, _), (1, _), (5, _), (8, _), (9, _), (11, _)] a := hA.sub ((.cons rfl (.cons rfl (.cons rfl (.cons rfl (.cons rfl (.cons rfl .nil)))))))
                    refine Ends.region ?_
                    refine S.val hA (R.move rfl) rfl ?_; clear hA a; intro a hA
                    refine S.val hA (R.move rfl) rfl ?_; clear hA a; intro a hA
                    refine S.val hA (R.move rfl) rfl ?_; clear hA a; intro a hA
                    refine S.val hA (R.move rfl) rfl ?_; clear hA a; intro a hA
                    refine S.val hA (R.indexAddr (q := i * 4) sl23 rfl rfl (by omega) (by omega)) rfl ?_; clear hA a; intro a hA
                    refine S.val hA (R.fieldAddr (q := i * 4 + 3) fi36_3 rfl rfl rfl) rfl ?_; clear hA a; intro a hA
                    refine S.val hA (R.to (v := .int .i64 (A : Int)) (R.load sz3 rfl (hM.tokRow (k := 0) rfl (i := i) (by omega) 3 _ rfl)) (by rw [hTK.1])) rfl ?_; clear hA a; intro a hA
                    refine S.val hA (R.move rfl) rfl ?_; clear hA a; intro a hA
                    refine S.val hA (R.to (v := .string ((s.extract A E))) (R.sliceSS Tryd.underlying9 rfl rfl rfl (by omega)) (by first | rfl | (congr 2; done) | (congr 2 <;> omega))) rfl ?_; clear hA a; intro a hA
                    refine S.call hA (R.callF Tryd.func17 rfl rfl rfl) rfl (cut_eq (s.extract A E) d (s.extract A (A + d)) (alr_TK hTK (by omega) (by omega)) (by rw [size_ext (by omega)]; omega) _) ?_; clear hA a
                    rintro e w15 ⟨rfl, hb⟩
                    replace hM := hM.callB hb; clear hb
                    refine ⟨.string ((s.extract A (A + d))), rfl, fun a hA => ?_⟩
                    refine S.val hA ((R.to (v := .string ((t ++ b) ++ s.extract A (A + d))) (R.addS rfl rfl (by have h9 := hmore.1; rw [ByteArray.size_append] at h9; omega)) rfl)) rfl ?_; clear hA a; intro a hA
                    refine S.val hA (R.assign rfl) rfl ?_; clear hA a; intro a hA
                    refine S.done ?_
                    replace hA : St 134 [(0, _), (1, _), (5, _), (8, _), (9, _)] a := hA.sub ((.cons rfl (.cons rfl (.cons rfl (.cons rfl (.cons rfl .nil))))))
                    refine Ends.inBlock ?_
                    refine Ends.region ?_
                    refine S.val hA (R.move rfl) rfl ?_; clear hA a; intro a hA
                    refine S.val hA (R.addI rfl rfl (r := ((i : Int)) + 1) rfl (by omega)) rfl ?_; clear hA a; intro a hA
                    refine S.val hA (R.assign rfl) rfl ?_; clear hA a; intro a hA
                    refine S.done ?_
                    replace hA : St 134 [(0, _), (1, _), (5, _), (8, _), (9, _)] a := hA.sub ((.cons rfl (.cons rfl (.cons rfl (.cons rfl (.cons rfl .nil))))))
                    exact hNext ((i + 1, ((t ++ b) ++ s.extract A (A + d)))) _ _ ((by show (scan s).1.length - (i + 1) < (scan s).1.length - i; omega)) ⟨hA.sub ((.cons rfl (.cons rfl (.cons rfl (.cons rfl (.cons rfl .nil)))))), hM, (by omega), (by have := hmore.1; omega), (fun _ => hmore), (fun e => absurd e (by omega))⟩
                  ·
                    refine Ends.skip ?_
                    refine Ends.inBlock ?_
                    refine Ends.region ?_
                    refine S.val hA (R.move rfl) rfl ?_; clear hA a; intro a hA
                    refine S.val hA (R.addI rfl rfl (r := ((i : Int)) + 1) rfl (by omega)) rfl ?_; clear hA a; intro a hA
                    refine S.val hA (R.assign rfl) rfl ?_; clear hA a; intro a hA
                    refine S.done ?_
                    replace hA : St 134 [(0, _), (1, _), (5, _), (8, _), (9, _)] a := hA.sub ((.cons rfl (.cons rfl (.cons rfl (.cons rfl (.cons rfl .nil))))))
                    exact hNext ((i + 1, t ++ b)) _ _ ((by show (scan s).1.length - (i + 1) < (scan s).1.length - i; omega)) ⟨hA.sub ((.cons rfl (.cons rfl (.cons rfl (.cons rfl (.cons rfl .nil)))))), hM, (by omega), (by rw [ByteArray.size_append]; omega), (fun e => absurd e (by omega)), (fun _ => by obtain ⟨m, h1, h2, h3⟩ := hBi.last hbk (by omega); exact ⟨m, by omega, fun j hj => h2 j (by omega), h3⟩)⟩
        ·
          refine Ends.skip ?_
          refine Ends.seq ?_
          obtain ⟨b, hbe⟩ : ∃ b : ByteArray, b = ⟨#[32]⟩ := ⟨_, rfl⟩
          have hbk : b ∈ blks := by rw [hbe]; simp [blks]
          have hbd := (blks_bd b hbk).2.1
          have hBi := hB (by omega)
          refine Ends.region ?_
          refine S.val hA (R.move rfl) rfl ?_; clear hA a; intro a hA
          refine S.buildSl (cells := #[.string (⟨#[32]⟩), .string (⟨#[10, 9]⟩), .string (⟨#[32, 35, 32, 114, 101, 109, 97, 114, 107, 32, 49, 10]⟩), .string (⟨#[35, 255, 10, 32]⟩), .string (⟨#[13, 10]⟩)]) hA hM Tryd.underlying34 info9 rfl rfl rfl rfl (by kernel_rfl) rfl ?_; clear hA hM a; intro b33 w16 hb34 hM a hA
          replace hM : Mem _ _ [pt b33 #[.string (⟨#[32]⟩), .string (⟨#[10, 9]⟩), .string (⟨#[32, 35, 32, 114, 101, 109, 97, 114, 107, 32, 49, 10]⟩), .string (⟨#[35, 255, 10, 32]⟩), .string (⟨#[13, 10]⟩)] 9, own 36 4 (.slice a4 (((scan s).1).length) c5) (((scan s).1).length) (tokv ((scan s).1))] _ := hM
          refine S.val hA (R.move rfl) rfl ?_; clear hA a; intro a hA
          refine S.val hA (R.remI rfl rfl (r := 0) (by omega) (by omega)) rfl ?_; clear hA a; intro a hA
          refine S.val hA (R.indexAddr (q := 0) sl34 rfl rfl (by omega) (rfl)) rfl ?_; clear hA a; intro a hA
          refine S.val hA (R.to (v := .string b) (R.load sz9 rfl (hM.cell (k := 0) rfl rfl)) (by rw [hbe]; rfl)) rfl ?_; clear hA a; intro a hA
          refine S.val hA ((R.to (v := .string (t ++ b)) (R.addS rfl rfl (by omega)) rfl)) rfl ?_; clear hA a; intro a hA
          refine S.val hA (R.assign rfl) rfl ?_; clear hA a; intro a hA
          refine S.done ?_
          replace hM := hM.drop 0
          replace hM : Mem _ _ [own 36 4 (.slice a4 (((scan s).1).length) c5) (((scan s).1).length) (tokv ((scan s).1))] _ := hM
          replace hA : St 134 [(0, _), (1, _), (5, _), (8, _), (9, _)] a := hA.sub ((.cons rfl (.cons rfl (.cons rfl (.cons rfl (.cons rfl .nil))))))
          refine Ends.seq ?_
          refine Ends.region ?_
          refine S.val hA (R.move rfl) rfl ?_; clear hA a; intro a hA
          refine S.val hA (R.move rfl) rfl ?_; clear hA a; intro a hA
          refine S.val hA (R.lenS Tryd.underlying23 rfl rfl) rfl ?_; clear hA a; intro a hA
          refine S.val hA (R.subI rfl rfl (r := (((scan s).1.length : Int)) - 1) rfl (by omega)) rfl ?_; clear hA a; intro a hA
          refine S.val hA (R.lss rfl rfl) rfl ?_; clear hA a; intro a hA
          refine S.done ?_
          replace hA : St 134 [(0, _), (1, _), (5, _), (8, _), (9, _), (58, _)] a := hA.sub ((.cons rfl (.cons rfl (.cons rfl (.cons rfl (.cons rfl (.cons rfl .nil)))))))
          refine Ends.ite hA rfl (fun hc35 => ?_) (fun hc35 => ?_)
          ·
            refine Ends.seq ?_
            obtain ⟨g36, hg36⟩ := hM.ownAt (k := 0) rfl (by omega)
            subst hg36
            replace hM : Mem _ _ [own 36 4 (.slice (some ⟨g36, 0, none⟩) (((scan s).1).length) c5) (((scan s).1).length) (tokv ((scan s).1))] _ := hM
            obtain ⟨A, d, hTK, hAd, hEs⟩ := scan_TJ he (i := i) (by omega)
            obtain ⟨E, hE⟩ : ∃ E : Nat, ((scan s).1.getD (i + 1) tz).a = (E : Int) := ⟨((scan s).1.getD (i + 1) tz).a.toNat, by omega⟩
            rw [hE] at hAd hEs
            have hmore := hBi.more hbk hTK
            refine Ends.region ?_
            refine S.val hA (R.move rfl) rfl ?_; clear hA a; intro a hA
            refine S.val hA (R.move rfl) rfl ?_; clear hA a; intro a hA
            refine S.val hA (R.addI rfl rfl (r := ((i : Int)) + 1) rfl (by omega)) rfl ?_; clear hA a; intro a hA
            refine S.val hA (R.indexAddr (q := (i + 1) * 4) sl23 rfl rfl (by omega) (by omega)) rfl ?_; clear hA a; intro a hA
            refine S.val hA (R.fieldAddr (q := (i + 1) * 4 + 3) fi36_3 rfl rfl rfl) rfl ?_; clear hA a; intro a hA
            refine S.val hA (R.to (v := .int .i64 (E : Int)) (R.load sz3 rfl (hM.tokRow (k := 0) rfl (i := (i + 1)) (by omega) 3 _ rfl)) (by rw [hE])) rfl ?_; clear hA a; intro a hA
            refine S.val hA (R.assign rfl) rfl ?_; clear hA a; intro a hA
            refine S.done ?_
            replace hA : St 134 [(0, _), (1, _), (5, _), (8, _), (9, _), (11, _)] a := hA.sub ((.cons rfl (.cons rfl (.cons rfl (.cons rfl (.cons rfl (.cons rfl .nil)))))))
            refine Ends.region ?_
            refine S.val hA (R.move rfl) rfl ?_; clear hA a; intro a hA
            refine S.val hA (R.move rfl) rfl ?_; clear hA a; intro a hA
            refine S.val hA (R.move rfl) rfl ?_; clear hA a; intro a hA
            refine S.val hA (R.move rfl) rfl ?_; clear hA a; intro a hA
            refine S.val hA (R.indexAddr (q := i * 4) sl23 rfl rfl (by omega) (by omega)) rfl ?_; clear hA a; intro a hA
            refine S.val hA (R.fieldAddr (q := i * 4 + 3) fi36_3 rfl rfl rfl) rfl ?_; clear hA a; intro a hA
            refine S.val hA (R.to (v := .int .i64 (A : Int)) (R.load sz3 rfl (hM.tokRow (k := 0) rfl (i := i) (by omega) 3 _ rfl)) (by rw [hTK.1])) rfl ?_; clear hA a; intro a hA
            refine S.val hA (R.move rfl) rfl ?_; clear hA a; intro a hA
            refine S.val hA (R.to (v := .string ((s.extract A E))) (R.sliceSS Tryd.underlying9 rfl rfl rfl (by omega)) (by first | rfl | (congr 2; done) | (congr 2 <;> omega))) rfl ?_; clear hA a; intro a hA
            refine S.call hA (R.callF Tryd.func17 rfl rfl rfl) rfl (cut_eq (s.extract A E) d (s.extract A (A + d)) (alr_TK hTK (by omega) (by omega)) (by rw [size_ext (by omega)]; omega) _) ?_; clear hA a
            rintro e w17 ⟨rfl, hb⟩
            replace hM := hM.callB hb; clear hb
            refine ⟨.string ((s.extract A (A + d))), rfl, fun a hA => ?_⟩
            refine S.val hA ((R.to (v := .string ((t ++ b) ++ s.extract A (A + d))) (R.addS rfl rfl (by have h9 := hmore.1; rw [ByteArray.size_append] at h9; omega)) rfl)) rfl ?_; clear hA a; intro a hA
            refine S.val hA (R.assign rfl) rfl ?_; clear hA a; intro a hA
            refine S.done ?_
            replace hA : St 134 [(0, _), (1, _), (5, _), (8, _), (9, _)] a := hA.sub ((.cons rfl (.cons rfl (.cons rfl (.cons rfl (.cons rfl .nil))))))
            refine Ends.inBlock ?_
            refine Ends.region ?_
            refine S.val hA (R.move rfl) rfl ?_; clear hA a; intro a hA
            refine S.val hA (R.addI rfl rfl (r := ((i : Int)) + 1) rfl (by omega)) rfl ?_; clear hA a; intro a hA
            refine S.val hA (R.assign rfl) rfl ?_; clear hA a; intro a hA
            refine S.done ?_
            replace hA : St 134 [(0, _), (1, _), (5, _), (8, _), (9, _)] a := hA.sub ((.cons rfl (.cons rfl (.cons rfl (.cons rfl (.cons rfl .nil))))))
            exact hNext ((i + 1, ((t ++ b) ++ s.extract A (A + d)))) _ _ ((by show (scan s).1.length - (i + 1) < (scan s).1.length - i; omega)) ⟨hA.sub ((.cons rfl (.cons rfl (.cons rfl (.cons rfl (.cons rfl .nil)))))), hM, (by omega), (by have := hmore.1; omega), (fun _ => hmore), (fun e => absurd e (by omega))⟩
          ·
            refine Ends.skip ?_
            refine Ends.inBlock ?_
            refine Ends.region ?_
            refine S.val hA (R.move rfl) rfl ?_; clear hA a; intro a hA
            refine S.val hA (R.addI rfl rfl (r := ((i : Int)) + 1) rfl (by omega)) rfl ?_; clear hA a; intro a hA
            refine S.val hA (R.assign rfl) rfl ?_; clear hA a; intro a hA
            refine S.done ?_
            replace hA : St 134 [(0, _), (1, _), (5, _), (8, _), (9, _)] a := hA.sub ((.cons rfl (.cons rfl (.cons rfl (.cons rfl (.cons rfl .nil))))))
            exact hNext ((i + 1, t ++ b)) _ _ ((by show (scan s).1.length - (i + 1) < (scan s).1.length - i; omega)) ⟨hA.sub ((.cons rfl (.cons rfl (.cons rfl (.cons rfl (.cons rfl .nil)))))), hM, (by omega), (by rw [ByteArray.size_append]; omega), (fun e => absurd e (by omega)), (fun _ => by obtain ⟨m, h1, h2, h3⟩ := hBi.last hbk (by omega); exact ⟨m, by omega, fun j hj => h2 j (by omega), h3⟩)⟩
      ·
        refine Ends.exit rfl ?_
        replace hA : St 134 [(5, _), (8, _)] a := hA.sub ((.cons rfl (.cons rfl .nil)))
        refine Ends.seq ?_
        have hiL : i = (scan s).1.length := by omega
        obtain ⟨m, hm1, hm2, hm3⟩ := hF hiL
        have hml : (m ++ [tend t]).length = (scan s).1.length := by rw [List.length_append, List.length_singleton]; exact hm1
        have hsm : ∀ j, j < (scan s).1.length → same3 ((scan s).1.getD j tz) ((m ++ [tend t]).getD j tz) := fun j hj => by
          rcases Nat.lt_or_ge j m.length with q | q
          · rw [getD_app1 q]; exact hm2 j q
          · have ej : j = m.length := by omega
            have ej2 : (scan s).1.getD j tz = tend s := by rw [← hlast.2]; congr 1; omega
            rw [ej2, ej, getD_app2]; exact ⟨rfl, rfl, rfl⟩
        refine Ends.region ?_
        refine S.val hA (R.move rfl) rfl ?_; clear hA a; intro a hA
        refine S.call hA (R.callF Tryd.func13 rfl rfl rfl) rfl (scan_eq t (by omega) (m ++ [tend t]) 0 0 hm3 _ (htab.mem hM OffT.nof)) ?_; clear hA a
        rintro e w18 ⟨a37, c38, rfl, hn⟩
        replace hM : Mem _ _ [own 36 4 (.slice a37 (((m ++ [tend t])).length) c38) (((m ++ [tend t])).length) (tokv ((m ++ [tend t]))), own 36 4 (.slice a4 (((scan s).1).length) c5) (((scan s).1).length) (tokv ((scan s).1))] _ := hM.call hn; clear hn
        refine ⟨.tuple #[.slice a37 ((m ++ [tend t]).length) c38, .int .i64 0, .int .i64 0], rfl, fun a hA => ?_⟩
        refine S.val hA (R.move rfl) rfl ?_; clear hA a; intro a hA
        refine S.val hA (R.extract (v := .slice a37 ((m ++ [tend t]).length) c38) rfl rfl) rfl ?_; clear hA a; intro a hA
        refine S.val hA (R.extract (v := .int .i64 0) rfl rfl) rfl ?_; clear hA a; intro a hA
        refine S.val hA (R.extract (v := .int .i64 0) rfl rfl) rfl ?_; clear hA a; intro a hA
        refine S.val hA (R.assign rfl) rfl ?_; clear hA a; intro a hA
        refine S.val hA (R.assign rfl) rfl ?_; clear hA a; intro a hA
        refine S.val hA (R.assign rfl) rfl ?_; clear hA a; intro a hA
        refine S.done ?_
        replace hA : St 134 [(5, _), (12, _), (14, _)] a := hA.sub ((.cons rfl (.cons rfl (.cons rfl .nil))))
        refine Ends.seq ?_
        refine Ends.seq ?_
        refine Ends.region ?_
        refine S.val hA (R.move rfl) rfl ?_; clear hA a; intro a hA
        refine S.val hA (R.ff (R.neq rfl rfl) (by first | decide | simp | omega)) rfl ?_; clear hA a; intro a hA
        refine S.val hA (R.move rfl) rfl ?_; clear hA a; intro a hA
        refine S.valg (dj := 84) hA (by kernel_rfl) rfl (R.move rfl) rfl ?_; clear hA a; intro a hA
        refine S.valg (dj := 84) hA (by kernel_rfl) rfl (R.lenS Tryd.underlying23 rfl rfl) rfl ?_; clear hA a; intro a hA
        refine S.valg (dj := 84) hA (by kernel_rfl) rfl (R.move rfl) rfl ?_; clear hA a; intro a hA
        refine S.valg (dj := 84) hA (by kernel_rfl) rfl (R.lenS Tryd.underlying23 rfl rfl) rfl ?_; clear hA a; intro a hA
        refine S.valg (dj := 84) hA (by kernel_rfl) rfl (R.ff (R.neq rfl rfl) (by rw [hml]; simp)) rfl ?_; clear hA a; intro a hA
        refine S.val hA (R.pickF rfl rfl) rfl ?_; clear hA a; intro a hA
        refine S.done ?_
        replace hA : St 134 [(5, _), (12, _), (90, _)] a := hA.sub ((.cons rfl (.cons rfl (.cons rfl .nil))))
        refine Ends.condF hA rfl ?_
        refine Ends.skip ?_
        refine Ends.seq ?_
        refine Ends.seq ?_
        refine Ends.region ?_
        refine S.val hA (R.assign rfl) rfl ?_; clear hA a; intro a hA
        refine S.done ?_
        replace hA : St 134 [(5, _), (12, _), (15, _)] a := hA.sub ((.cons rfl (.cons rfl (.cons rfl .nil))))
        refine Ends.block ?_
        refine Ends.loop (σ := Nat) (fun j (a : Act) (wv : World) => St 134 [(5, .slice a4 ((scan s).1.length) c5), (12, .slice a37 ((m ++ [tend t]).length) c38), (15, .int .i64 ((j : Int)))] a ∧ Mem w nof [own 36 4 (.slice a37 (((m ++ [tend t])).length) c38) (((m ++ [tend t])).length) (tokv ((m ++ [tend t]))), own 36 4 (.slice a4 (((scan s).1).length) c5) (((scan s).1).length) (tokv ((scan s).1))] wv ∧ (j ≤ (scan s).1.length)) (fun j => (scan s).1.length - j) 0 ⟨hA.sub ((.cons rfl (.cons rfl (.cons rfl .nil)))), hM, (Nat.zero_le _)⟩ ?_
        clear hA hM a
        rintro j a w19 ⟨hA, hM, hj⟩ hNext1
        refine Ends.seq ?_
        refine Ends.seq ?_
        refine Ends.region ?_
        refine S.val hA (R.move rfl) rfl ?_; clear hA a; intro a hA
        refine S.val hA (R.move rfl) rfl ?_; clear hA a; intro a hA
        refine S.val hA (R.lenS Tryd.underlying23 rfl rfl) rfl ?_; clear hA a; intro a hA
        refine S.val hA (R.lss rfl rfl) rfl ?_; clear hA a; intro a hA
        refine S.done ?_
        replace hA : St 134 [(5, _), (12, _), (15, _), (94, _)] a := hA.sub ((.cons rfl (.cons rfl (.cons rfl (.cons rfl .nil)))))
        refine Ends.ite hA rfl (fun hc39 => ?_) (fun hc39 => ?_)
        ·
          refine Ends.skip ?_
          refine Ends.seq ?_
          refine Ends.block ?_
          refine Ends.seq ?_
          obtain ⟨g40, hg40⟩ := hM.ownAt (k := 0) rfl (by omega)
          subst hg40
          replace hM : Mem _ _ [own 36 4 (.slice (some ⟨g40, 0, none⟩) (((m ++ [tend t])).length) c38) (((m ++ [tend t])).length) (tokv ((m ++ [tend t]))), own 36 4 (.slice a4 (((scan s).1).length) c5) (((scan s).1).length) (tokv ((scan s).1))] _ := hM
          obtain ⟨g41, hg41⟩ := hM.ownAt (k := 1) rfl (by omega)
          subst hg41
          replace hM : Mem _ _ [own 36 4 (.slice (some ⟨g40, 0, none⟩) (((m ++ [tend t])).length) c38) (((m ++ [tend t])).length) (tokv ((m ++ [tend t]))), own 36 4 (.slice (some ⟨g41, 0, none⟩) (((scan s).1).length) c5) (((scan s).1).length) (tokv ((scan s).1))] _ := hM
          have hs3 := hsm j (by omega)
          refine Ends.drawn (Mem w nof [own 36 4 (.slice (some ⟨g40, 0, none⟩) (((m ++ [tend t])).length) c38) (((m ++ [tend t])).length) (tokv ((m ++ [tend t]))), own 36 4 (.slice (some ⟨g41, 0, none⟩) (((scan s).1).length) c5) (((scan s).1).length) (tokv ((scan s).1))]) (.cons (0, true) (.cons (1, true) (.cons (2, true) (.cons (3, true) (.cons (4, true) (.cons (5, true) (.cons (6, true) (.cons (7, true) (.cons (8, true) (.cons (9, true) (.cons (10, true) (.cons (11, true) (.cons (12, true) (.cons (13, true) (.cons (14, true) (.cons (15, true) (.cons (16, true) (.cons (17, true) (.cons (18, true) (.cons (19, true) (.cons (20, true) (.cons (21, true) (.cons (22, true) (.cons (23, true) (.cons (24, true) (.cons (25, true) (.cons (26, true) (.cons (27, true) (.cons (28, true) (.cons (29, true) (.cons (30, true) (.cons (31, true) (.cons (32, true) (.cons (33, true) (.cons (34, true) (.cons (35, true) (.cons (36, true) .nil))))))))))))))))))))))))))))))))))))) 37 mixed (by kernel_rfl) (by kernel_rfl) (by kernel_rfl) hM.drew ?_
          replace hM := hM.drew
          refine D.valF hA rfl (fun _ => R.move rfl) rfl ?_; clear hA a; intro a hA
          refine D.valF hA rfl (fun _ => R.move rfl) rfl ?_; clear hA a; intro a hA
          refine D.valF hA rfl (fun _ => R.indexAddr (q := j * 4) sl23 rfl rfl (by omega) (by omega)) rfl ?_; clear hA a; intro a hA
          refine D.valF hA rfl (fun _ => R.fieldAddr (q := j * 4 + 0) fi36_0 rfl rfl rfl) rfl ?_; clear hA a; intro a hA
          refine D.val hA rfl (by kernel_rfl) (fun _ hM => R.load sz3 rfl (hM.tokRow (k := 0) rfl (i := j) (by omega) 0 _ rfl)) rfl ?_; clear hA a; intro a hA
          refine D.valF hA rfl (fun _ => R.move rfl) rfl ?_; clear hA a; intro a hA
          refine D.valF hA rfl (fun _ => R.move rfl) rfl ?_; clear hA a; intro a hA
          refine D.valF hA rfl (fun _ => R.indexAddr (q := j * 4) sl23 rfl rfl (by omega) (by omega)) rfl ?_; clear hA a; intro a hA
          refine D.valF hA rfl (fun _ => R.fieldAddr (q := j * 4 + 0) fi36_0 rfl rfl rfl) rfl ?_; clear hA a; intro a hA
          refine D.val hA rfl (by kernel_rfl) (fun _ hM => R.load sz3 rfl (hM.tokRow (k := 1) rfl (i := j) (by omega) 0 _ rfl)) rfl ?_; clear hA a; intro a hA
          refine D.valF hA rfl (fun _ => R.ff (R.neq rfl rfl) (by rw [hs3.1]; simp)) rfl ?_; clear hA a; intro a hA
          refine D.valF hA rfl (fun _ => R.move rfl) rfl ?_; clear hA a; intro a hA
          refine D.valgF (dj := 108) hA rfl (by kernel_rfl) rfl (fun _ => R.move rfl) rfl ?_; clear hA a; intro a hA
          refine D.valgF (dj := 108) hA rfl (by kernel_rfl) rfl (fun _ => R.move rfl) rfl ?_; clear hA a; intro a hA
          refine D.valgF (dj := 108) hA rfl (by kernel_rfl) rfl (fun _ => R.indexAddr (q := j * 4) sl23 rfl rfl (by omega) (by omega)) rfl ?_; clear hA a; intro a hA
          refine D.valgF (dj := 108) hA rfl (by kernel_rfl) rfl (fun _ => R.fieldAddr (q := j * 4 + 1) fi36_1 rfl rfl rfl) rfl ?_; clear hA a; intro a hA
          refine D.valg (dj := 108) hA rfl (by kernel_rfl) (by kernel_rfl) rfl (fun _ hM => R.load sz9 rfl (hM.tokRow (k := 0) rfl (i := j) (by omega) 1 _ rfl)) rfl ?_; clear hA a; intro a hA
          refine D.valgF (dj := 108) hA rfl (by kernel_rfl) rfl (fun _ => R.move rfl) rfl ?_; clear hA a; intro a hA
          refine D.valgF (dj := 108) hA rfl (by kernel_rfl) rfl (fun _ => R.move rfl) rfl ?_; clear hA a; intro a hA
          refine D.valgF (dj := 108) hA rfl (by kernel_rfl) rfl (fun _ => R.indexAddr (q := j * 4) sl23 rfl rfl (by omega) (by omega)) rfl ?_; clear hA a; intro a hA
          refine D.valgF (dj := 108) hA rfl (by kernel_rfl) rfl (fun _ => R.fieldAddr (q := j * 4 + 1) fi36_1 rfl rfl rfl) rfl ?_; clear hA a; intro a hA
          refine D.valg (dj := 108) hA rfl (by kernel_rfl) (by kernel_rfl) rfl (fun _ hM => R.load sz9 rfl (hM.tokRow (k := 1) rfl (i := j) (by omega) 1 _ rfl)) rfl ?_; clear hA a; intro a hA
          refine D.valgF (dj := 108) hA rfl (by kernel_rfl) rfl (fun _ => R.ff (R.neqStr rfl rfl) (by rw [hs3.2.1]; simp)) rfl ?_; clear hA a; intro a hA
          refine D.valF hA rfl (fun _ => R.pickF rfl rfl) rfl ?_; clear hA a; intro a hA
          refine D.valF hA rfl (fun _ => R.move rfl) rfl ?_; clear hA a; intro a hA
          refine D.valgF (dj := 121) hA rfl (by kernel_rfl) rfl (fun _ => R.move rfl) rfl ?_; clear hA a; intro a hA
          refine D.valgF (dj := 121) hA rfl (by kernel_rfl) rfl (fun _ => R.move rfl) rfl ?_; clear hA a; intro a hA
          refine D.valgF (dj := 121) hA rfl (by kernel_rfl) rfl (fun _ => R.indexAddr (q := j * 4) sl23 rfl rfl (by omega) (by omega)) rfl ?_; clear hA a; intro a hA
          refine D.valgF (dj := 121) hA rfl (by kernel_rfl) rfl (fun _ => R.fieldAddr (q := j * 4 + 2) fi36_2 rfl rfl rfl) rfl ?_; clear hA a; intro a hA
          refine D.valg (dj := 121) hA rfl (by kernel_rfl) (by kernel_rfl) rfl (fun _ hM => R.load sz3 rfl (hM.tokRow (k := 0) rfl (i := j) (by omega) 2 _ rfl)) rfl ?_; clear hA a; intro a hA
          refine D.valgF (dj := 121) hA rfl (by kernel_rfl) rfl (fun _ => R.move rfl) rfl ?_; clear hA a; intro a hA
          refine D.valgF (dj := 121) hA rfl (by kernel_rfl) rfl (fun _ => R.move rfl) rfl ?_; clear hA a; intro a hA
          refine D.valgF (dj := 121) hA rfl (by kernel_rfl) rfl (fun _ => R.indexAddr (q := j * 4) sl23 rfl rfl (by omega) (by omega)) rfl ?_; clear hA a; intro a hA
          refine D.valgF (dj := 121) hA rfl (by kernel_rfl) rfl (fun _ => R.fieldAddr (q := j * 4 + 2) fi36_2 rfl rfl rfl) rfl ?_; clear hA a; intro a hA
          refine D.valg (dj := 121) hA rfl (by kernel_rfl) (by kernel_rfl) rfl (fun _ hM => R.load sz3 rfl (hM.tokRow (k := 1) rfl (i := j) (by omega) 2 _ rfl)) rfl ?_; clear hA a; intro a hA
          refine D.valgF (dj := 121) hA rfl (by kernel_rfl) rfl (fun _ => R.ff (R.neq rfl rfl) (by rw [hs3.2.2]; simp)) rfl ?_; clear hA a; intro a hA
          refine D.valF hA rfl (fun _ => R.pickF rfl rfl) rfl ?_; clear hA a; intro a hA
          refine D.done ?_
          replace hA : St 134 [(5, _), (12, _), (15, _), (133, _)] a := hA.sub ((.cons rfl (.cons rfl (.cons rfl (.cons rfl .nil)))))
          refine Ends.condF hA rfl ?_
          refine Ends.skip ?_
          refine Ends.inBlock ?_
          refine Ends.region ?_
          refine S.val hA (R.move rfl) rfl ?_; clear hA a; intro a hA
          refine S.val hA (R.addI rfl rfl (r := ((j : Int)) + 1) rfl (by omega)) rfl ?_; clear hA a; intro a hA
          refine S.val hA (R.assign rfl) rfl ?_; clear hA a; intro a hA
          refine S.done ?_
          replace hA : St 134 [(5, _), (12, _), (15, _)] a := hA.sub ((.cons rfl (.cons rfl (.cons rfl .nil))))
          exact hNext1 ((j + 1)) _ _ ((by show (scan s).1.length - (j + 1) < (scan s).1.length - j; omega)) ⟨hA.sub ((.cons rfl (.cons rfl (.cons rfl .nil)))), hM, (by omega)⟩
        ·
          refine Ends.exit rfl ?_
          replace hA : St 134 [] a := hA.sub (.nil)
          refine Ends.seq ?_
          refine Ends.region ?_
          refine S.val hA (R.assign rfl) rfl ?_; clear hA a; intro a hA
          refine S.done ?_
          replace hA : St 134 [(4, _)] a := hA.sub ((.cons rfl .nil))
          refine Ends.ret1 Tryd.func4 Tryd.results4 hA rfl ?_
          exact ⟨rfl, hM.nilL.below⟩
theorem lexBlanks_any (s : ByteArray) (v : Value) (l : List Int) (w : World) (_hs : s.size ≤ maxLen) (hsl : BytSl w v l) (hl8 : ∀ x ∈ l, (Lit.int .u8 x).wf = true) (htab : U8T w) : Calls Tryd.prog 4 #[.string s, v] w fun e w' => e = .returned (.bool true) ∧ Below w.heap.size w w' := by
  obtain ⟨ad, cap, rfl, hll⟩ := hsl.form
  exact lexBlanks_w s (.slice ad l.length cap) l ad cap hl8 hll w hsl htab
end Go.Proofs.YtdbbigjoloinpaaDoor
