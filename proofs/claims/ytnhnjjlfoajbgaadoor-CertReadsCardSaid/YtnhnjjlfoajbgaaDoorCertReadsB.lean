/-
  CertReads, part 2 of 3: what the code computes, and plain laws; no condition beside those that each theorem tells.
-/
import Derived.Test.YtnhnjjlfoajbgaaDoorCertReadsA
namespace Go.Proofs.YtnhnjjlfoajbgaaDoor
open Go.RowKit
theorem dec_let {s : ByteArray} {p : Nat} (h : p < s.size) : (isT ((Utf8.decode s p).1 : Int) ↔ isT (byt s p)) ∧ (isT (byt s p) → (Utf8.decode s p).2 = 1) := by
  have hb := byt_at h
  by_cases ha : (s[p]'h).toNat < 128
  · rw [decode_ascii s p h ha]
    exact ⟨by rw [hb], fun _ => rfl⟩
  · have h2 := (decode_high s p h (by omega)).1
    have hn : ¬ isT (byt s p) := fun hd => by unfold isT at hd; rw [← hb] at hd; omega
    exact ⟨⟨fun hk => by unfold isT at hk; exfalso; omega, fun hd => absurd hd hn⟩, fun hd => absurd hd hn⟩
theorem sgE_in {s : ByteArray} {p : Nat} {c : Int} (h : p < s.size) : sgE s p c = if byt s p ≠ c then 2 else 0 := if_neg (by omega)
theorem sgE_out {s : ByteArray} {p : Nat} {c : Int} (h : s.size ≤ p) : sgE s p c = 6 := if_pos h
theorem sgE_miss {s : ByteArray} {p : Nat} {c : Int} (h : p < s.size) (g : byt s p ≠ c) : sgE s p c = 2 := by rw [sgE_in h, if_pos g]
theorem sgE_ok {s : ByteArray} {p : Nat} {c : Int} (h : p < s.size) (g : byt s p = c) : sgE s p c = 0 := by rw [sgE_in h, if_neg (not_not_intro g)]
theorem sgE_lt {s : ByteArray} {p : Nat} {c : Int} (h : sgE s p c = 0) : p < s.size := by
  rcases Nat.lt_or_ge p s.size with g | g
  · exact g
  · rw [sgE_out g] at h; cases h
theorem nm_le {s : ByteArray} {p : Nat} {most : Int} (hp : p ≤ s.size) : p ≤ (nmE s p most).2.1 ∧ (nmE s p most).2.1 ≤ s.size ∧ (p < (nmE s p most).2.1 ∨ (nmE s p most).2.2 ≠ 0) := by
  unfold nmE
  split
  · exact ⟨Nat.le_refl _, hp, .inr (fun h9 => absurd (show (6 : Int) = 0 from h9) (by decide))⟩
  · split
    · rename_i e; exact ⟨Nat.le_refl _, hp, .inr e⟩
    · rename_i e
      split
      · exact ⟨Nat.le_refl _, hp, .inr (fun h9 => absurd (show (5 : Int) = 0 from h9) (by decide))⟩
      · refine ⟨by simp only; omega, by simp only; exact dgs_le s hp, .inl ?_⟩
        simp only
        have : dgs s p ≠ 0 := fun h0 => e (Classical.byContradiction fun h9 => by
          have h8 : (readI s p).2.2 = 0 := Decidable.not_not.1 e
          unfold readI at h8
          rw [if_neg (by omega), Int.toNat_natCast, if_pos (.inl h0)] at h8
          exact absurd h8 (by decide))
        omega
theorem nm_ok {s : ByteArray} {p : Nat} {most : Int} (hp : p < s.size) (e : (readI s p).2.2 = 0) (h : ¬ most < (readI s p).1) : nmE s p most = ((readI s p).1, p + dgs s p, 0) ∧ (readI s p).2.1 = ((p + dgs s p : Nat) : Int) := by
  constructor
  · unfold nmE; rw [if_neg (by omega), if_neg (not_not_intro e), if_neg h]
  · unfold readI at e ⊢
    rw [if_neg (by omega), Int.toNat_natCast] at e ⊢
    split
    · rename_i g; rw [if_pos g] at e; exact absurd e (by decide)
    · rename_i g
      rw [if_neg g] at e
      split
      · rename_i g2; rw [if_pos g2] at e; exact absurd e (by decide)
      · simp only; omega
theorem nm_val {s : ByteArray} {p : Nat} {most : Int} (hm : 0 ≤ most) : 0 ≤ (nmE s p most).1 ∧ (nmE s p most).1 ≤ most := by
  unfold nmE
  split
  · exact ⟨Int.le_refl _, hm⟩
  · split
    · exact ⟨Int.le_refl _, hm⟩
    · rename_i e
      have e := Decidable.not_not.1 e
      split
      · exact ⟨Int.le_refl _, hm⟩
      · rename_i h
        refine ⟨?_, by simp only; omega⟩
        simp only
        unfold readI at e ⊢
        split
        · exact Int.le_refl _
        · rename_i g1
          rw [if_neg g1] at e
          split
          · exact Int.le_refl _
          · rename_i g2
            rw [if_neg g2] at e
            split
            · exact Int.le_refl _
            · exact (numv_bd (fun j hj => (dgs_spec s _).1 j hj)).1
set_option maxRecDepth 100000 in
set_option maxHeartbeats 400000 in
theorem letter30 (r : Int) (w : World) :
  Calls Tryd.prog 27 #[.int .i32 r] w fun e w' => e = .returned (.bool (decide (isT r))) ∧ Below w.heap.size w w' := by
 have hbs := Below.refl (B := w.heap.size) w
 have hM := Mem.start w
 refine Calls.of_ends (vs := [.int .i32 r]) Tryd.func27 rfl Tryd.ntmps27 rfl ?_
 intro a hA
 replace hA : St 13 [(0, _)] a := hA
 refine Ends.seq (Ends.region ?_)
 refine S.val hA (R.assign rfl) rfl ?_; clear hA a; intro a hA
 refine S.done ?_
 refine Ends.seq ?_
 refine Ends.cut (fun (a : Act) (wv : World) => St 13 [(2, .bool (decide (((r = 112 ∨ r = 98) ∨ r = 108))))] a ∧ Mem w nof [] wv) ?_ (fun k2 hJ => ?_)
 ·
  clear hA hM a; rintro a w1 ⟨hA, hM⟩
  refine Ends.ret1 Tryd.func27 Tryd.results27 hA rfl ?_
  exact ⟨congrArg (fun b => Ending.returned (.bool b)) (decide_eq_decide.2 (by (try unfold isT); omega)), Mem.trans0 hbs hM.nilL⟩
 ·
  refine Ends.region ?_
  refine S.val hA (R.move rfl) rfl ?_; clear hA a; intro a hA
  refine S.val hA (R.eql rfl rfl) rfl ?_; clear hA a; intro a hA
  refine S.val hA (R.move rfl) rfl ?_; clear hA a; intro a hA
  refine hA.split (d := 5) rfl ?_ ?_
  ·
   clear hA; intro hg1 hA
   refine S.no (dj := 5) hA (by kernel_rfl) rfl rfl rfl ?_; clear hA a; intro a hA
   refine S.no (dj := 5) hA (by kernel_rfl) rfl rfl rfl ?_; clear hA a; intro a hA
   refine S.val hA (R.pickT rfl rfl) rfl ?_; clear hA a; intro a hA
   refine S.val hA (R.move rfl) rfl ?_; clear hA a; intro a hA
   refine S.no (dj := 9) hA (by kernel_rfl) rfl rfl rfl ?_; clear hA a; intro a hA
   refine S.no (dj := 9) hA (by kernel_rfl) rfl rfl rfl ?_; clear hA a; intro a hA
   refine S.val hA (R.pickT rfl rfl) rfl ?_; clear hA a; intro a hA
   refine S.val hA (R.assign rfl) rfl ?_; clear hA a; intro a hA
   refine S.done ?_
   replace hA : St 13 [(2, _)] a := hA.sub ((.cons rfl .nil))
   exact hJ _ _ ⟨hA.sub (.cons (by first | rfl | exact congrArg (fun b => some (Value.bool b)) (by first | exact decide_eq_decide.2 (by omega) | exact or_bool (by omega) | exact and_bool (by omega) | (simp; done) | (simp [hg1]; done) | (have h80 := hg1; (try simp at h80); simp [h80]; done) | exact (decide_eq_false (fun h9 => hg1 h9.1)).symm)) .nil), hM⟩
  ·
   clear hA; intro hg1 hA
   refine S.valg (dj := 5) hA (by kernel_rfl) rfl (R.move rfl) rfl ?_; clear hA a; intro a hA
   refine S.valg (dj := 5) hA (by kernel_rfl) rfl (R.eql rfl rfl) rfl ?_; clear hA a; intro a hA
   refine S.val hA (R.pickF rfl rfl) rfl ?_; clear hA a; intro a hA
   refine S.val hA (R.move rfl) rfl ?_; clear hA a; intro a hA
   refine hA.split (d := 9) rfl ?_ ?_
   ·
    clear hA; intro hg2 hA
    refine S.no (dj := 9) hA (by kernel_rfl) rfl rfl rfl ?_; clear hA a; intro a hA
    refine S.no (dj := 9) hA (by kernel_rfl) rfl rfl rfl ?_; clear hA a; intro a hA
    refine S.val hA (R.pickT rfl rfl) rfl ?_; clear hA a; intro a hA
    refine S.val hA (R.assign rfl) rfl ?_; clear hA a; intro a hA
    refine S.done ?_
    replace hA : St 13 [(2, _)] a := hA.sub ((.cons rfl .nil))
    exact hJ _ _ ⟨hA.sub (.cons (by first | rfl | exact congrArg (fun b => some (Value.bool b)) (by first | exact decide_eq_decide.2 (by omega) | exact or_bool (by omega) | exact and_bool (by omega) | (simp; done) | (simp [hg1, hg2]; done) | (have h80 := hg1; (try simp at h80); have h81 := hg2; (try simp at h81); simp [h80, h81]; done) | exact (decide_eq_false (fun h9 => hg1 h9.1)).symm | exact (decide_eq_false (fun h9 => hg2 h9.1)).symm)) .nil), hM⟩
   ·
    clear hA; intro hg2 hA
    refine S.valg (dj := 9) hA (by kernel_rfl) rfl (R.move rfl) rfl ?_; clear hA a; intro a hA
    refine S.valg (dj := 9) hA (by kernel_rfl) rfl (R.eql rfl rfl) rfl ?_; clear hA a; intro a hA
    refine S.val hA (R.pickF rfl rfl) rfl ?_; clear hA a; intro a hA
    refine S.val hA (R.assign rfl) rfl ?_; clear hA a; intro a hA
    refine S.done ?_
    replace hA : St 13 [(2, _)] a := hA.sub ((.cons rfl .nil))
    exact hJ _ _ ⟨hA.sub (.cons (by first | rfl | exact congrArg (fun b => some (Value.bool b)) (by first | exact decide_eq_decide.2 (by omega) | exact or_bool (by omega) | exact and_bool (by omega) | (simp; done) | (simp [hg1, hg2]; done) | (have h80 := hg1; (try simp at h80); have h81 := hg2; (try simp at h81); simp [h80, h81]; done) | exact (decide_eq_false (fun h9 => hg1 h9.1)).symm | exact (decide_eq_false (fun h9 => hg2 h9.1)).symm)) .nil), hM⟩
set_option maxRecDepth 100000 in
set_option maxHeartbeats 400000 in
theorem rletter30 (r : Int) (w : World) :
  Calls Tryd.prog 20 #[.int .u8 r] w fun e w' => e = .returned (.bool (decide (isT r))) ∧ Below w.heap.size w w' := by
 have hbs := Below.refl (B := w.heap.size) w
 have hM := Mem.start w
 refine Calls.of_ends (vs := [.int .u8 r]) Tryd.func20 rfl Tryd.ntmps20 rfl ?_
 intro a hA
 replace hA : St 13 [(0, _)] a := hA
 refine Ends.seq (Ends.region ?_)
 refine S.val hA (R.assign rfl) rfl ?_; clear hA a; intro a hA
 refine S.done ?_
 refine Ends.seq ?_
 refine Ends.cut (fun (a : Act) (wv : World) => St 13 [(2, .bool (decide (((r = 112 ∨ r = 98) ∨ r = 108))))] a ∧ Mem w nof [] wv) ?_ (fun k2 hJ => ?_)
 ·
  clear hA hM a; rintro a w1 ⟨hA, hM⟩
  refine Ends.ret1 Tryd.func20 Tryd.results20 hA rfl ?_
  exact ⟨congrArg (fun b => Ending.returned (.bool b)) (decide_eq_decide.2 (by (try unfold isT); omega)), Mem.trans0 hbs hM.nilL⟩
 ·
  refine Ends.region ?_
  refine S.val hA (R.move rfl) rfl ?_; clear hA a; intro a hA
  refine S.val hA (R.eql rfl rfl) rfl ?_; clear hA a; intro a hA
  refine S.val hA (R.move rfl) rfl ?_; clear hA a; intro a hA
  refine hA.split (d := 5) rfl ?_ ?_
  ·
   clear hA; intro hg1 hA
   refine S.no (dj := 5) hA (by kernel_rfl) rfl rfl rfl ?_; clear hA a; intro a hA
   refine S.no (dj := 5) hA (by kernel_rfl) rfl rfl rfl ?_; clear hA a; intro a hA
   refine S.val hA (R.pickT rfl rfl) rfl ?_; clear hA a; intro a hA
   refine S.val hA (R.move rfl) rfl ?_; clear hA a; intro a hA
   refine S.no (dj := 9) hA (by kernel_rfl) rfl rfl rfl ?_; clear hA a; intro a hA
   refine S.no (dj := 9) hA (by kernel_rfl) rfl rfl rfl ?_; clear hA a; intro a hA
   refine S.val hA (R.pickT rfl rfl) rfl ?_; clear hA a; intro a hA
   refine S.val hA (R.assign rfl) rfl ?_; clear hA a; intro a hA
   refine S.done ?_
   replace hA : St 13 [(2, _)] a := hA.sub ((.cons rfl .nil))
   exact hJ _ _ ⟨hA.sub (.cons (by first | rfl | exact congrArg (fun b => some (Value.bool b)) (by first | exact decide_eq_decide.2 (by omega) | exact or_bool (by omega) | exact and_bool (by omega) | (simp; done) | (simp [hg1]; done) | (have h80 := hg1; (try simp at h80); simp [h80]; done) | exact (decide_eq_false (fun h9 => hg1 h9.1)).symm)) .nil), hM⟩
  ·
   clear hA; intro hg1 hA
   refine S.valg (dj := 5) hA (by kernel_rfl) rfl (R.move rfl) rfl ?_; clear hA a; intro a hA
   refine S.valg (dj := 5) hA (by kernel_rfl) rfl (R.eql rfl rfl) rfl ?_; clear hA a; intro a hA
   refine S.val hA (R.pickF rfl rfl) rfl ?_; clear hA a; intro a hA
   refine S.val hA (R.move rfl) rfl ?_; clear hA a; intro a hA
   refine hA.split (d := 9) rfl ?_ ?_
   ·
    clear hA; intro hg2 hA
    refine S.no (dj := 9) hA (by kernel_rfl) rfl rfl rfl ?_; clear hA a; intro a hA
    refine S.no (dj := 9) hA (by kernel_rfl) rfl rfl rfl ?_; clear hA a; intro a hA
    refine S.val hA (R.pickT rfl rfl) rfl ?_; clear hA a; intro a hA
    refine S.val hA (R.assign rfl) rfl ?_; clear hA a; intro a hA
    refine S.done ?_
    replace hA : St 13 [(2, _)] a := hA.sub ((.cons rfl .nil))
    exact hJ _ _ ⟨hA.sub (.cons (by first | rfl | exact congrArg (fun b => some (Value.bool b)) (by first | exact decide_eq_decide.2 (by omega) | exact or_bool (by omega) | exact and_bool (by omega) | (simp; done) | (simp [hg1, hg2]; done) | (have h80 := hg1; (try simp at h80); have h81 := hg2; (try simp at h81); simp [h80, h81]; done) | exact (decide_eq_false (fun h9 => hg1 h9.1)).symm | exact (decide_eq_false (fun h9 => hg2 h9.1)).symm)) .nil), hM⟩
   ·
    clear hA; intro hg2 hA
    refine S.valg (dj := 9) hA (by kernel_rfl) rfl (R.move rfl) rfl ?_; clear hA a; intro a hA
    refine S.valg (dj := 9) hA (by kernel_rfl) rfl (R.eql rfl rfl) rfl ?_; clear hA a; intro a hA
    refine S.val hA (R.pickF rfl rfl) rfl ?_; clear hA a; intro a hA
    refine S.val hA (R.assign rfl) rfl ?_; clear hA a; intro a hA
    refine S.done ?_
    replace hA : St 13 [(2, _)] a := hA.sub ((.cons rfl .nil))
    exact hJ _ _ ⟨hA.sub (.cons (by first | rfl | exact congrArg (fun b => some (Value.bool b)) (by first | exact decide_eq_decide.2 (by omega) | exact or_bool (by omega) | exact and_bool (by omega) | (simp; done) | (simp [hg1, hg2]; done) | (have h80 := hg1; (try simp at h80); have h81 := hg2; (try simp at h81); simp [h80, h81]; done) | exact (decide_eq_false (fun h9 => hg1 h9.1)).symm | exact (decide_eq_false (fun h9 => hg2 h9.1)).symm)) .nil), hM⟩
set_option maxRecDepth 100000 in
set_option maxHeartbeats 400000 in
theorem within30 (n low high : Int) (w : World) :
  Calls Tryd.prog 26 #[.int .i64 n, .int .i64 low, .int .i64 high] w fun e w' => e = .returned (.bool (decide (low ≤ n ∧ n ≤ high))) ∧ Below w.heap.size w w' := by
 have hbs := Below.refl (B := w.heap.size) w
 have hM := Mem.start w
 refine Calls.of_ends (vs := [.int .i64 n, .int .i64 low, .int .i64 high]) Tryd.func26 rfl Tryd.ntmps26 rfl ?_
 intro a hA
 replace hA : St 15 [(0, _), (1, _), (2, _)] a := hA
 refine Ends.seq (Ends.region ?_)
 refine S.val hA (R.assign rfl) rfl ?_; clear hA a; intro a hA
 refine S.done ?_
 refine Ends.seq ?_
 refine Ends.cut (fun (a : Act) (wv : World) => St 15 [(6, .bool (decide ((low ≤ n ∧ n ≤ high))))] a ∧ Mem w nof [] wv) ?_ (fun k2 hJ => ?_)
 ·
  clear hA hM a; rintro a w1 ⟨hA, hM⟩
  refine Ends.ret1 Tryd.func26 Tryd.results26 hA rfl ?_
  exact ⟨congrArg (fun b => Ending.returned (.bool b)) (decide_eq_decide.2 (by (try unfold isT); omega)), Mem.trans0 hbs hM.nilL⟩
 ·
  refine Ends.region ?_
  refine S.val hA (R.move rfl) rfl ?_; clear hA a; intro a hA
  refine S.val hA (R.move rfl) rfl ?_; clear hA a; intro a hA
  refine S.val hA (R.geq rfl rfl) rfl ?_; clear hA a; intro a hA
  refine S.val hA (R.move rfl) rfl ?_; clear hA a; intro a hA
  refine hA.split (d := 10) rfl ?_ ?_
  ·
   clear hA; intro hg1 hA
   refine S.valg (dj := 10) hA (by kernel_rfl) rfl (R.move rfl) rfl ?_; clear hA a; intro a hA
   refine S.valg (dj := 10) hA (by kernel_rfl) rfl (R.move rfl) rfl ?_; clear hA a; intro a hA
   refine S.valg (dj := 10) hA (by kernel_rfl) rfl (R.leq rfl rfl) rfl ?_; clear hA a; intro a hA
   refine S.val hA (R.pickT rfl rfl) rfl ?_; clear hA a; intro a hA
   refine S.val hA (R.assign rfl) rfl ?_; clear hA a; intro a hA
   refine S.done ?_
   replace hA : St 15 [(6, _)] a := hA.sub ((.cons rfl .nil))
   exact hJ _ _ ⟨hA.sub (.cons (by first | rfl | exact congrArg (fun b => some (Value.bool b)) (by first | exact decide_eq_decide.2 (by omega) | exact or_bool (by omega) | exact and_bool (by omega) | (simp; done) | (simp [hg1]; done) | (have h80 := hg1; (try simp at h80); simp [h80]; done) | exact (decide_eq_false (fun h9 => hg1 h9.1)).symm)) .nil), hM⟩
  ·
   clear hA; intro hg1 hA
   refine S.no (dj := 10) hA (by kernel_rfl) rfl rfl rfl ?_; clear hA a; intro a hA
   refine S.no (dj := 10) hA (by kernel_rfl) rfl rfl rfl ?_; clear hA a; intro a hA
   refine S.no (dj := 10) hA (by kernel_rfl) rfl rfl rfl ?_; clear hA a; intro a hA
   refine S.val hA (R.pickF rfl rfl) rfl ?_; clear hA a; intro a hA
   refine S.val hA (R.assign rfl) rfl ?_; clear hA a; intro a hA
   refine S.done ?_
   replace hA : St 15 [(6, _)] a := hA.sub ((.cons rfl .nil))
   exact hJ _ _ ⟨hA.sub (.cons (by first | rfl | exact congrArg (fun b => some (Value.bool b)) (by first | exact decide_eq_decide.2 (by omega) | exact or_bool (by omega) | exact and_bool (by omega) | (simp; done) | (simp [hg1]; done) | (have h80 := hg1; (try simp at h80); simp [h80]; done) | exact (decide_eq_false (fun h9 => hg1 h9.1)).symm)) .nil), hM⟩
set_option maxRecDepth 100000 in
set_option maxHeartbeats 400000 in
theorem signs30 (s : ByteArray) (rb p : Nat) (hp : p ≤ s.size) (hs : s.size ≤ 4611686018427387904) (want : ByteArray) (W : List Int) (hWl : want.size = W.length) (hWs : W.length ≤ 100) (hWb : ∀ k, k < W.length → byt want k = W.getD k 0) (w : World) (hM : Mem w (feet [pt rb #[.string s, .int .i64 ((p : Int))] 51]) [pt rb #[.string s, .int .i64 ((p : Int))] 51] w) :
  Calls Tryd.prog 32 #[.pointer (some ⟨rb, 0, none⟩), .string want] w fun e w' => e = .returned (.int .i64 (sgW s W p).2) ∧ Mem w (feet [pt rb #[.string s, .int .i64 ((p : Int))] 51]) [pt rb #[.string s, .int .i64 ((((sgW s W p).1 : Nat) : Int))] 51] w' := by
 have hbs := Below.refl (B := w.heap.size) w
 refine Calls.of_ends (vs := [.pointer (some ⟨rb, 0, none⟩), .string want]) Tryd.func32 rfl Tryd.ntmps32 rfl ?_
 intro a hA
 replace hA : St 44 [(0, _), (1, _)] a := hA
 refine Ends.seq (Ends.region ?_)
 refine S.val hA (R.assign rfl) rfl ?_; clear hA a; intro a hA
 refine S.done ?_
 refine Ends.seq (Ends.seq (Ends.region ?_))
 refine S.val hA (R.move rfl) rfl ?_; clear hA a; intro a hA
 refine S.val hA (R.lenStr Tryd.underlying9 rfl rfl) rfl ?_; clear hA a; intro a hA
 refine S.val hA (R.move rfl) rfl ?_; clear hA a; intro a hA
 refine S.done ?_
 refine Ends.block ?_
 rw [show (p : Int) = ((p + 0 : Nat) : Int) by omega] at hM
 replace hM : Mem _ _ [pt rb #[.string s, .int .i64 (((p + 0 : Nat) : Int))] 51] _ := hM
 refine Ends.loop (σ := Nat) (fun k (a : Act) (wv : World) => St 44 [(0, .pointer (some ⟨rb, 0, none⟩)), (1, .string want), (7, .int .i64 ((want.size : Int))), (8, .int .i64 ((k : Int)))] a ∧ Mem w (feet [pt rb #[.string s, .int .i64 ((p : Int))] 51]) [pt rb #[.string s, .int .i64 (((p + k : Nat) : Int))] 51] wv ∧ (k ≤ W.length) ∧ (p + k ≤ s.size) ∧ (sgW s W p = sgW s (W.drop k) (p + k))) (fun k => W.length - k) 0 ⟨hA.sub ((.cons rfl (.cons rfl (.cons rfl (.cons rfl .nil))))), hM, (Nat.zero_le _), (by omega), rfl⟩ ?_
 clear hA hM a
 rintro k a w1 ⟨hA, hM, hk, hpk, hinv⟩ hNext
 refine Ends.seq (Ends.region ?_)
 refine S.val hA (R.lss rfl rfl) rfl ?_; clear hA a; intro a hA
 refine S.done ?_
 refine Ends.seq ?_
 refine Ends.ite hA rfl (fun hc1 => ?_) (fun hc1 => ?_)
 ·
  have hdr : W.drop k = W.getD k 0 :: W.drop (k + 1) := by rw [List.drop_eq_getElem_cons (by omega)]; congr 1; simp [List.getD, show k < W.length by omega]
  have hbk := hWb k (by omega)
  refine Ends.skip (Ends.seq (Ends.block (Ends.seq (Ends.region ?_))))
  refine S.val hA (R.move rfl) rfl ?_; clear hA a; intro a hA
  refine S.val hA (R.assign rfl) rfl ?_; clear hA a; intro a hA
  refine S.done ?_
  refine Ends.seq (Ends.block (Ends.seq ?_))
  refine Ends.drawn (Mem w (feet [pt rb #[.string s, .int .i64 ((p : Int))] 51]) [pt rb #[.string s, .int .i64 (((p + k : Nat) : Int))] 51]) (.cons (0, true) (.cons (1, true) (.cons (2, true) (.cons (3, true) (.cons (4, true) (.cons (5, true) (.cons (6, true) (.cons (7, true) (.cons (8, true) (.cons (9, true) (.cons (10, true) .nil))))))))))) 11 mixed (by kernel_rfl) (by kernel_rfl) (by kernel_rfl) hM.drew ?_
  replace hM := hM.drew
  refine D.valF hA rfl (fun _ => R.move rfl) rfl ?_; clear hA a; intro a hA
  refine D.valF hA rfl (fun _ => R.nilCheck rfl) rfl ?_; clear hA a; intro a hA
  refine D.valF hA rfl (fun _ => R.fieldAddr (q := 1) fi51_1 rfl rfl rfl) rfl ?_; clear hA a; intro a hA
  refine D.val hA rfl (by kernel_rfl) (fun _ hM => R.load sz3 rfl (hM.cell (k := 0) rfl rfl)) rfl ?_; clear hA a; intro a hA
  refine D.valF hA rfl (fun _ => R.move rfl) rfl ?_; clear hA a; intro a hA
  refine D.valF hA rfl (fun _ => R.nilCheck rfl) rfl ?_; clear hA a; intro a hA
  refine D.valF hA rfl (fun _ => R.fieldAddr (q := 0) fi51_0 rfl rfl rfl) rfl ?_; clear hA a; intro a hA
  refine D.val hA rfl (by kernel_rfl) (fun _ hM => R.load sz9 rfl (hM.cell (k := 0) rfl rfl)) rfl ?_; clear hA a; intro a hA
  refine D.valF hA rfl (fun _ => R.lenStr Tryd.underlying9 rfl rfl) rfl ?_; clear hA a; intro a hA
  refine D.valF hA rfl (fun _ => R.eql rfl rfl) rfl ?_; clear hA a; intro a hA
  refine D.valF hA rfl (fun _ => R.assign rfl) rfl ?_; clear hA a; intro a hA
  refine D.done ?_
  replace hA : St 44 [(0, _), (1, _), (5, _), (7, _), (8, _), (11, _)] a := hA.sub ((.cons rfl (.cons rfl (.cons rfl (.cons rfl (.cons rfl (.cons rfl .nil)))))))
  refine Ends.ite hA rfl (fun hc2 => ?_) (fun hc2 => ?_)
  ·
   have hT : sgW s W p = (p + k, 6) := by rw [hinv, hdr, sgW, sgE_out (by omega), if_pos (by decide)]
   refine Ends.seq (Ends.region ?_)
   refine S.val hA (R.assign rfl) rfl ?_; clear hA a; intro a hA
   refine S.done ?_
   refine Ends.ret1 Tryd.func32 Tryd.results32 hA rfl ?_
   replace hM := hM.firstN 1
   replace hM : Mem _ _ [pt rb #[.string s, .int .i64 (((p + k : Nat) : Int))] 51] _ := hM
   rw [hT]
   exact ⟨rfl, hM⟩
  ·
   have hlt : p + k < s.size := by omega
   refine Ends.seq ?_
   refine Ends.drawn (Mem w (feet [pt rb #[.string s, .int .i64 ((p : Int))] 51]) [pt rb #[.string s, .int .i64 (((p + k : Nat) : Int))] 51]) (.cons (0, true) (.cons (1, true) (.cons (2, true) (.cons (3, true) (.cons (4, true) (.cons (5, true) (.cons (6, true) (.cons (7, true) (.cons (8, true) (.cons (9, true) (.cons (10, true) (.cons (11, true) (.cons (12, true) (.cons (13, true) .nil)))))))))))))) 14 mixed (by kernel_rfl) (by kernel_rfl) (by kernel_rfl) hM.drew ?_
   replace hM := hM.drew
   refine D.valF hA rfl (fun _ => R.move rfl) rfl ?_; clear hA a; intro a hA
   refine D.valF hA rfl (fun _ => R.nilCheck rfl) rfl ?_; clear hA a; intro a hA
   refine D.valF hA rfl (fun _ => R.fieldAddr (q := 0) fi51_0 rfl rfl rfl) rfl ?_; clear hA a; intro a hA
   refine D.val hA rfl (by kernel_rfl) (fun _ hM => R.load sz9 rfl (hM.cell (k := 0) rfl rfl)) rfl ?_; clear hA a; intro a hA
   refine D.valF hA rfl (fun _ => R.move rfl) rfl ?_; clear hA a; intro a hA
   refine D.valF hA rfl (fun _ => R.nilCheck rfl) rfl ?_; clear hA a; intro a hA
   refine D.valF hA rfl (fun _ => R.fieldAddr (q := 1) fi51_1 rfl rfl rfl) rfl ?_; clear hA a; intro a hA
   refine D.val hA rfl (by kernel_rfl) (fun _ hM => R.load sz3 rfl (hM.cell (k := 0) rfl rfl)) rfl ?_; clear hA a; intro a hA
   refine D.valF hA rfl (fun _ => R.to (v := .int .u8 (byt s ((p + k)))) (R.idxS Tryd.underlying9 rfl rfl (by omega)) (by first | rfl | (congr 2; done) | (congr 2; omega))) rfl ?_; clear hA a; intro a hA
   refine D.valF hA rfl (fun _ => R.move rfl) rfl ?_; clear hA a; intro a hA
   refine D.valF hA rfl (fun _ => R.move rfl) rfl ?_; clear hA a; intro a hA
   refine D.valF hA rfl (fun _ => R.to (v := .int .u8 (byt want k)) (R.idxS Tryd.underlying9 rfl rfl (by omega)) (by first | rfl | (congr 2; done) | (congr 2; omega))) rfl ?_; clear hA a; intro a hA
   refine D.valF hA rfl (fun _ => R.neq rfl rfl) rfl ?_; clear hA a; intro a hA
   refine D.valF hA rfl (fun _ => R.assign rfl) rfl ?_; clear hA a; intro a hA
   refine D.done ?_
   replace hA : St 44 [(0, _), (1, _), (7, _), (8, _), (22, _)] a := hA.sub ((.cons rfl (.cons rfl (.cons rfl (.cons rfl (.cons rfl .nil))))))
   refine Ends.ite hA rfl (fun hc3 => ?_) (fun hc3 => ?_)
   ·
    have hT : sgW s W p = (p + k, 2) := by rw [hinv, hdr, sgW, sgE_miss hlt (by rw [← hbk]; exact hc3), if_pos (by decide)]
    refine Ends.seq (Ends.region ?_)
    refine S.val hA (R.assign rfl) rfl ?_; clear hA a; intro a hA
    refine S.done ?_
    refine Ends.ret1 Tryd.func32 Tryd.results32 hA rfl ?_
    replace hM := hM.firstN 1
    replace hM : Mem _ _ [pt rb #[.string s, .int .i64 (((p + k : Nat) : Int))] 51] _ := hM
    rw [hT]
    exact ⟨rfl, hM⟩
   ·
    have hok : sgE s (p + k) (W.getD k 0) = 0 := sgE_ok hlt (by rw [← hbk]; exact Decidable.not_not.1 hc3)
    refine Ends.skip (Ends.inBlock (Ends.region ?_))
    refine S.val hA (R.move rfl) rfl ?_; clear hA a; intro a hA
    refine S.val hA (R.nilCheck rfl) rfl ?_; clear hA a; intro a hA
    refine S.val hA (R.fieldAddr (q := 1) fi51_1 rfl rfl rfl) rfl ?_; clear hA a; intro a hA
    refine S.val hA (R.load sz3 rfl (hM.cell (k := 0) rfl rfl)) rfl ?_; clear hA a; intro a hA
    refine S.val hA (R.addI rfl rfl (r := (((p + k : Nat) : Int)) + 1) rfl (by omega)) rfl ?_; clear hA a; intro a hA
    refine S.val hA (R.nilCheck rfl) rfl ?_; clear hA a; intro a hA
    refine S.val hA (R.fieldAddr (q := 1) fi51_1 rfl rfl rfl) rfl ?_; clear hA a; intro a hA
    refine S.store (k := 0) hA hM sz3 rfl rfl rfl rfl rfl ?_; clear hM
    intro w2 hM
    replace hM : Mem _ _ [pt rb #[.string s, .int .i64 ((((p + k : Nat) : Int)) + 1)] 51] _ := hM
    refine S.done ?_
    replace hA : St 44 [(0, _), (1, _), (7, _), (8, _)] a := hA.sub ((.cons rfl (.cons rfl (.cons rfl (.cons rfl .nil)))))
    refine Ends.inBlock (Ends.region ?_)
    refine S.val hA (R.addI rfl rfl (r := ((k : Int)) + 1) rfl (by omega)) rfl ?_; clear hA a; intro a hA
    refine S.val hA (R.move rfl) rfl ?_; clear hA a; intro a hA
    refine S.done ?_
    rw [show ((p + k : Nat) : Int) + 1 = ((p + (k + 1) : Nat) : Int) by omega] at hM
    replace hM : Mem _ _ [pt rb #[.string s, .int .i64 (((p + (k + 1) : Nat) : Int))] 51] _ := hM
    replace hM := hM.firstN 1
    replace hM : Mem _ _ [pt rb #[.string s, .int .i64 (((p + (k + 1) : Nat) : Int))] 51] _ := hM
    exact hNext ((k + 1)) _ _ ((by show W.length - (k + 1) < W.length - k; omega)) ⟨hA.sub ((.cons rfl (.cons rfl (.cons rfl (.cons rfl .nil))))), hM, (by omega), (by omega), (by rw [hinv, hdr, sgW, hok, if_neg (by decide)]; rfl)⟩
 ·
  have hke : W.drop k = [] := List.drop_eq_nil_of_le (by omega)
  have hT : sgW s W p = (p + k, 0) := by rw [hinv, hke]; rfl
  refine Ends.exit rfl ?_
  replace hA : St 44 [] a := hA.sub (.nil)
  refine Ends.seq (Ends.region ?_)
  refine S.val hA (R.assign rfl) rfl ?_; clear hA a; intro a hA
  refine S.done ?_
  refine Ends.ret1 Tryd.func32 Tryd.results32 hA rfl ?_
  replace hM := hM.firstN 1
  replace hM : Mem _ _ [pt rb #[.string s, .int .i64 (((p + k : Nat) : Int))] 51] _ := hM
  rw [hT]
  exact ⟨rfl, hM⟩
set_option maxRecDepth 100000 in
set_option maxHeartbeats 400000 in
theorem number30 (s : ByteArray) (rb p : Nat) (hp : p ≤ s.size) (hs : s.size ≤ 4611686018427387904) (most : Int) (w : World) (hM : Mem w (feet [pt rb #[.string s, .int .i64 ((p : Int))] 51]) [pt rb #[.string s, .int .i64 ((p : Int))] 51] w) :
  Calls Tryd.prog 33 #[.pointer (some ⟨rb, 0, none⟩), .int .i64 most] w fun e w' => e = .returned (.tuple #[.int .i64 (nmE s p most).1, .int .i64 (nmE s p most).2.2]) ∧ Mem w (feet [pt rb #[.string s, .int .i64 ((p : Int))] 51]) [pt rb #[.string s, .int .i64 ((((nmE s p most).2.1 : Nat) : Int))] 51] w' := by
 have hbs := Below.refl (B := w.heap.size) w
 refine Calls.of_ends (vs := [.pointer (some ⟨rb, 0, none⟩), .int .i64 most]) Tryd.func33 rfl Tryd.ntmps33 rfl ?_
 intro a hA
 replace hA : St 45 [(0, _), (1, _)] a := hA
 refine Ends.seq (Ends.region ?_)
 refine S.val hA (R.assign rfl) rfl ?_; clear hA a; intro a hA
 refine S.val hA (R.assign rfl) rfl ?_; clear hA a; intro a hA
 refine S.done ?_
 refine Ends.seq (Ends.seq ?_)
 refine Ends.drawn (Mem w (feet [pt rb #[.string s, .int .i64 ((p : Int))] 51]) [pt rb #[.string s, .int .i64 ((p : Int))] 51]) (.cons (0, true) (.cons (1, true) (.cons (2, true) (.cons (3, true) (.cons (4, true) (.cons (5, true) (.cons (6, true) (.cons (7, true) (.cons (8, true) (.cons (9, true) .nil)))))))))) 10 mixed (by kernel_rfl) (by kernel_rfl) (by kernel_rfl) hM.drew ?_
 replace hM := hM.drew
 refine D.valF hA rfl (fun _ => R.move rfl) rfl ?_; clear hA a; intro a hA
 refine D.valF hA rfl (fun _ => R.nilCheck rfl) rfl ?_; clear hA a; intro a hA
 refine D.valF hA rfl (fun _ => R.fieldAddr (q := 1) fi51_1 rfl rfl rfl) rfl ?_; clear hA a; intro a hA
 refine D.val hA rfl (by kernel_rfl) (fun _ hM => R.load sz3 rfl (hM.cell (k := 0) rfl rfl)) rfl ?_; clear hA a; intro a hA
 refine D.valF hA rfl (fun _ => R.move rfl) rfl ?_; clear hA a; intro a hA
 refine D.valF hA rfl (fun _ => R.nilCheck rfl) rfl ?_; clear hA a; intro a hA
 refine D.valF hA rfl (fun _ => R.fieldAddr (q := 0) fi51_0 rfl rfl rfl) rfl ?_; clear hA a; intro a hA
 refine D.val hA rfl (by kernel_rfl) (fun _ hM => R.load sz9 rfl (hM.cell (k := 0) rfl rfl)) rfl ?_; clear hA a; intro a hA
 refine D.valF hA rfl (fun _ => R.lenStr Tryd.underlying9 rfl rfl) rfl ?_; clear hA a; intro a hA
 refine D.valF hA rfl (fun _ => R.eql rfl rfl) rfl ?_; clear hA a; intro a hA
 refine D.done ?_
 replace hA : St 45 [(0, _), (1, _), (18, _)] a := hA.sub ((.cons rfl (.cons rfl (.cons rfl .nil))))
 refine Ends.ite hA rfl (fun hc1 => ?_) (fun hc1 => ?_)
 ·
  have hT : nmE s p most = (0, p, 6) := if_pos (by omega)
  refine Ends.seq (Ends.region ?_)
  refine S.val hA (R.assign rfl) rfl ?_; clear hA a; intro a hA
  refine S.val hA (R.assign rfl) rfl ?_; clear hA a; intro a hA
  refine S.done ?_
  refine Ends.ret2 Tryd.func33 Tryd.results33 hA rfl rfl ?_
  replace hM := hM.firstN 1
  replace hM : Mem _ _ [pt rb #[.string s, .int .i64 ((p : Int))] 51] _ := hM
  rw [hT]
  exact ⟨rfl, hM⟩
 ·
  have hlt : p < s.size := by omega
  refine Ends.skip (Ends.seq ?_)
  refine Ends.drawn (Mem w (feet [pt rb #[.string s, .int .i64 ((p : Int))] 51]) [pt rb #[.string s, .int .i64 ((p : Int))] 51]) (.cons (0, true) (.cons (1, true) (.cons (2, true) (.cons (3, true) (.cons (4, true) (.cons (5, true) (.cons (6, true) (.cons (7, true) (.cons (8, false) (.cons (9, true) (.cons (10, true) (.cons (11, true) (.cons (12, true) (.cons (13, true) (.cons (14, true) (.cons (15, true) .nil)))))))))))))))) 16 mixed (by kernel_rfl) (by kernel_rfl) (by kernel_rfl) hM.drew ?_
  replace hM := hM.drew
  refine D.valF hA rfl (fun _ => R.move rfl) rfl ?_; clear hA a; intro a hA
  refine D.valF hA rfl (fun _ => R.nilCheck rfl) rfl ?_; clear hA a; intro a hA
  refine D.valF hA rfl (fun _ => R.fieldAddr (q := 0) fi51_0 rfl rfl rfl) rfl ?_; clear hA a; intro a hA
  refine D.val hA rfl (by kernel_rfl) (fun _ hM => R.load sz9 rfl (hM.cell (k := 0) rfl rfl)) rfl ?_; clear hA a; intro a hA
  refine D.valF hA rfl (fun _ => R.move rfl) rfl ?_; clear hA a; intro a hA
  refine D.valF hA rfl (fun _ => R.nilCheck rfl) rfl ?_; clear hA a; intro a hA
  refine D.valF hA rfl (fun _ => R.fieldAddr (q := 1) fi51_1 rfl rfl rfl) rfl ?_; clear hA a; intro a hA
  refine D.val hA rfl (by kernel_rfl) (fun _ hM => R.load sz3 rfl (hM.cell (k := 0) rfl rfl)) rfl ?_; clear hA a; intro a hA
  refine D.call hA rfl (R.callF Tryd.func38 rfl rfl rfl) rfl (read_any s ((p : Int)) (by omega) _) ?_; clear hA a
  rintro e w1 ⟨rfl, hb⟩
  replace hM := hM.callB hb; clear hb
  refine ⟨.tuple #[.int .i64 ((readI s ((p : Int))).1), .int .i64 ((readI s ((p : Int))).2.1), .int .i64 ((readI s ((p : Int))).2.2)], rfl, hM, fun a hA => ?_⟩
  refine D.valF hA rfl (fun _ => R.move rfl) rfl ?_; clear hA a; intro a hA
  refine D.valF hA rfl (fun _ => R.extract (v := .int .i64 ((readI s ((p : Int))).1)) rfl rfl) rfl ?_; clear hA a; intro a hA
  refine D.valF hA rfl (fun _ => R.extract (v := .int .i64 ((readI s ((p : Int))).2.1)) rfl rfl) rfl ?_; clear hA a; intro a hA
  refine D.valF hA rfl (fun _ => R.extract (v := .int .i64 ((readI s ((p : Int))).2.2)) rfl rfl) rfl ?_; clear hA a; intro a hA
  refine D.valF hA rfl (fun _ => R.assign rfl) rfl ?_; clear hA a; intro a hA
  refine D.valF hA rfl (fun _ => R.assign rfl) rfl ?_; clear hA a; intro a hA
  refine D.valF hA rfl (fun _ => R.assign rfl) rfl ?_; clear hA a; intro a hA
  refine D.done ?_
  replace hA : St 45 [(0, _), (1, _), (6, _), (7, _), (8, _)] a := hA.sub ((.cons rfl (.cons rfl (.cons rfl (.cons rfl (.cons rfl .nil))))))
  refine Ends.seq (Ends.block (Ends.seq (Ends.region ?_)))
  refine S.val hA (R.move rfl) rfl ?_; clear hA a; intro a hA
  refine S.val hA (R.neq rfl rfl) rfl ?_; clear hA a; intro a hA
  refine S.val hA (R.assign rfl) rfl ?_; clear hA a; intro a hA
  refine S.done ?_
  refine Ends.ite hA rfl (fun hc2 => ?_) (fun hc2 => ?_)
  ·
   have hT : nmE s p most = (0, p, (readI s p).2.2) := by unfold nmE; rw [if_neg (by omega), if_pos hc2]
   refine Ends.seq (Ends.region ?_)
   refine S.val hA (R.move rfl) rfl ?_; clear hA a; intro a hA
   refine S.val hA (R.assign rfl) rfl ?_; clear hA a; intro a hA
   refine S.val hA (R.assign rfl) rfl ?_; clear hA a; intro a hA
   refine S.done ?_
   replace hA : St 45 [(0, _), (4, _), (5, _), (6, _), (7, _)] a := hA.sub ((.cons rfl (.cons rfl (.cons rfl (.cons rfl (.cons rfl .nil))))))
   refine Ends.ret2 Tryd.func33 Tryd.results33 hA rfl rfl ?_
   replace hM := hM.firstN 1
   replace hM : Mem _ _ [pt rb #[.string s, .int .i64 ((p : Int))] 51] _ := hM
   rw [hT]
   exact ⟨rfl, hM⟩
  ·
   have he0 : (readI s p).2.2 = 0 := Decidable.not_not.1 hc2
   refine Ends.seq (Ends.region ?_)
   refine S.val hA (R.move rfl) rfl ?_; clear hA a; intro a hA
   refine S.val hA (R.move rfl) rfl ?_; clear hA a; intro a hA
   refine S.val hA (R.gtr rfl rfl) rfl ?_; clear hA a; intro a hA
   refine S.val hA (R.assign rfl) rfl ?_; clear hA a; intro a hA
   refine S.done ?_
   replace hA : St 45 [(0, _), (6, _), (7, _), (36, _)] a := hA.sub ((.cons rfl (.cons rfl (.cons rfl (.cons rfl .nil)))))
   refine Ends.ite hA rfl (fun hc3 => ?_) (fun hc3 => ?_)
   ·
    have hT : nmE s p most = (0, p, 5) := by unfold nmE; rw [if_neg (by omega), if_neg (not_not_intro he0), if_pos hc3]
    refine Ends.seq (Ends.region ?_)
    refine S.val hA (R.assign rfl) rfl ?_; clear hA a; intro a hA
    refine S.val hA (R.assign rfl) rfl ?_; clear hA a; intro a hA
    refine S.done ?_
    refine Ends.ret2 Tryd.func33 Tryd.results33 hA rfl rfl ?_
    replace hM := hM.firstN 1
    replace hM : Mem _ _ [pt rb #[.string s, .int .i64 ((p : Int))] 51] _ := hM
    rw [hT]
    exact ⟨rfl, hM⟩
   ·
    obtain ⟨hT, hT2⟩ := nm_ok hlt he0 hc3
    refine Ends.skip (Ends.inBlock (Ends.seq (Ends.region ?_)))
    refine S.val hA (R.move rfl) rfl ?_; clear hA a; intro a hA
    refine S.val hA (R.move rfl) rfl ?_; clear hA a; intro a hA
    refine S.val hA (R.nilCheck rfl) rfl ?_; clear hA a; intro a hA
    refine S.val hA (R.fieldAddr (q := 1) fi51_1 rfl rfl rfl) rfl ?_; clear hA a; intro a hA
    refine S.store (k := 0) hA hM sz3 rfl rfl rfl rfl rfl ?_; clear hM
    intro w2 hM
    replace hM : Mem _ _ [pt rb #[.string s, .int .i64 ((readI s ((p : Int))).2.1)] 51] _ := hM
    refine S.done ?_
    replace hA : St 45 [(6, _)] a := hA.sub ((.cons rfl .nil))
    refine Ends.seq (Ends.region ?_)
    refine S.val hA (R.move rfl) rfl ?_; clear hA a; intro a hA
    refine S.val hA (R.assign rfl) rfl ?_; clear hA a; intro a hA
    refine S.val hA (R.assign rfl) rfl ?_; clear hA a; intro a hA
    refine S.done ?_
    refine Ends.ret2 Tryd.func33 Tryd.results33 hA rfl rfl ?_
    replace hM := hM.firstN 1
    replace hM : Mem _ _ [pt rb #[.string s, .int .i64 ((readI s ((p : Int))).2.1)] 51] _ := hM
    rw [hT2] at hM
    rw [hT]
    exact ⟨rfl, hM⟩
theorem sgW_le (s : ByteArray) : ∀ (W : List Int) (p : Nat), p ≤ s.size → (sgW s W p).1 ≤ s.size
  | [], p, h => h
  | c :: W, p, h => by
    rw [sgW]; split
    · exact h
    · rename_i e
      exact sgW_le s W (p + 1) (sgE_lt (Decidable.not_not.1 e))
theorem sg1_ok {s : ByteArray} {c : Int} {p : Nat} (h : sgE s p c = 0) : sgW s [c] p = (p + 1, 0) := by rw [sgW, if_neg (not_not_intro h)]; rfl
theorem sg1_no {s : ByteArray} {c : Int} {p : Nat} (h : sgE s p c ≠ 0) : sgW s [c] p = (p, sgE s p c) := by rw [sgW, if_pos h]
theorem sg1_e (s : ByteArray) (c : Int) (p : Nat) : (sgW s [c] p).2 = sgE s p c := by
  by_cases h : sgE s p c = 0
  · rw [sg1_ok h, h]
  · rw [sg1_no h]
theorem cHd_fin {s : ByteArray} (f1 : (cH1 s).2 = 0) (f2 : (cH2 s).2.2 = 0) (f3 : sgE s (cH2 s).2.1 32 = 0) (f4 : (cH3 s).2.2 = 0) (f5 : ¬ (cH3 s).1 = 0) : cHd s = sgW s [10] (cH3 s).2.1 := by
  unfold cHd
  rw [if_neg (not_not_intro f1), if_neg (not_not_intro f2), if_neg (not_not_intro f3), if_neg (not_not_intro f4), if_neg f5]
  split
  · rename_i e; rw [sg1_no e]
  · rename_i e; rw [sg1_ok (Decidable.not_not.1 e)]
theorem cHd_le (s : ByteArray) (f : (cHd s).2 = 0) : (cHd s).1 ≤ s.size := by
  unfold cHd at f ⊢
  split
  · rename_i e; rw [if_pos e] at f; exact absurd f e
  rename_i e1; rw [if_neg e1] at f
  split
  · rename_i e; rw [if_pos e] at f; exact absurd f e
  rename_i e2; rw [if_neg e2] at f
  split
  · rename_i e; rw [if_pos e] at f; exact absurd f e
  rename_i e3; rw [if_neg e3] at f
  split
  · rename_i e; rw [if_pos e] at f; exact absurd f e
  rename_i e4; rw [if_neg e4] at f
  split
  · rename_i e; rw [if_pos e] at f; exact absurd (show (1 : Int) = 0 from f) (by decide)
  rename_i e5; rw [if_neg e5] at f
  split
  · rename_i e; rw [if_pos e] at f; exact absurd f e
  rename_i e6
  have := sgE_lt (Decidable.not_not.1 e6)
  exact this
set_option maxRecDepth 100000 in
set_option maxHeartbeats 400000 in
theorem head30 (s : ByteArray) (rb : Nat) (hs : s.size ≤ 4611686018427387904) (w : World) (hM : Mem w (feet [pt rb #[.string s, .int .i64 (0)] 51]) [pt rb #[.string s, .int .i64 0] 51] w) :
  Calls Tryd.prog 21 #[.pointer (some ⟨rb, 0, none⟩)] w fun e w' => ∃ hv hn9, e = .returned (.tuple #[.int .i64 hv, .int .i64 hn9, .int .i64 (cHd s).2]) ∧ ((cHd s).2 = 0 → hv = (cH2 s).1 ∧ hn9 = (cH3 s).1) ∧ Mem w (feet [pt rb #[.string s, .int .i64 (0)] 51]) [pt rb #[.string s, .int .i64 ((((cHd s).1 : Nat) : Int))] 51] w' := by
 have hbs := Below.refl (B := w.heap.size) w
 refine Calls.of_ends (vs := [.pointer (some ⟨rb, 0, none⟩)]) Tryd.func21 rfl Tryd.ntmps21 rfl ?_
 intro a hA
 replace hA : St 46 [(0, _)] a := hA
 refine Ends.seq (Ends.region ?_)
 refine S.val hA (R.assign rfl) rfl ?_; clear hA a; intro a hA
 refine S.val hA (R.assign rfl) rfl ?_; clear hA a; intro a hA
 refine S.val hA (R.assign rfl) rfl ?_; clear hA a; intro a hA
 refine S.done ?_
 refine Ends.seq (Ends.seq (Ends.region ?_))
 refine S.val hA (R.move rfl) rfl ?_; clear hA a; intro a hA
 refine S.call hA (R.callF Tryd.func32 rfl rfl rfl) rfl (signs30 s rb 0 (Nat.zero_le _) hs ⟨#[67, 69, 82, 84, 32]⟩ aheadW (by decide) (by decide) (by decide) _ (hM.hereN 1)) ?_; clear hA a
 rintro e w1 ⟨rfl, hn⟩
 replace hM : Mem _ _ [pt rb #[.string s, .int .i64 ((((cH1 s).1 : Nat) : Int))] 51] _ := hM.callL 1 hn; clear hn
 refine ⟨.int .i64 ((cH1 s).2), rfl, fun a hA => ?_⟩
 refine S.val hA (R.assign rfl) rfl ?_; clear hA a; intro a hA
 refine S.done ?_
 replace hA : St 46 [(0, _), (4, _)] a := hA.sub ((.cons rfl (.cons rfl .nil)))
 refine Ends.seq (Ends.region ?_)
 refine S.val hA (R.move rfl) rfl ?_; clear hA a; intro a hA
 refine S.val hA (R.neq rfl rfl) rfl ?_; clear hA a; intro a hA
 refine S.done ?_
 refine Ends.ite hA rfl (fun hc1 => ?_) (fun hc1 => ?_)
 ·
  have hT : cHd s = cH1 s := by unfold cHd; rw [if_pos hc1]
  refine Ends.seq (Ends.region ?_)
  refine S.val hA (R.move rfl) rfl ?_; clear hA a; intro a hA
  refine S.val hA (R.assign rfl) rfl ?_; clear hA a; intro a hA
  refine S.val hA (R.assign rfl) rfl ?_; clear hA a; intro a hA
  refine S.val hA (R.assign rfl) rfl ?_; clear hA a; intro a hA
  refine S.done ?_
  refine Ends.ret3 Tryd.func21 Tryd.results21 hA rfl rfl rfl ?_
  replace hM := hM.firstN 1
  replace hM : Mem _ _ [pt rb #[.string s, .int .i64 ((((cH1 s).1 : Nat) : Int))] 51] _ := hM
  rw [hT]
  exact ⟨_, _, rfl, fun h9 => absurd h9 hc1, hM⟩
 ·
  have f1 := Decidable.not_not.1 hc1
  have k1 : (cH1 s).1 = 5 := by have h9 := sgW_inv (L := s.data.toList) p1 0 (cH1 s).1 (by rw [data_bs]; exact Prod.ext rfl f1); exact h9.1.trans (by decide)
  have k5 : 5 ≤ s.size := by have h9 := sgW_le s aheadW 0 (Nat.zero_le _); rw [show sgW s aheadW 0 = cH1 s from rfl, k1] at h9; exact h9
  rw [k1] at hM
  refine Ends.skip (Ends.seq (Ends.seq (Ends.region ?_)))
  refine S.val hA (R.move rfl) rfl ?_; clear hA a; intro a hA
  have hn2 : 5 ≤ (cH2 s).2.1 ∧ (cH2 s).2.1 ≤ s.size ∧ (5 < (cH2 s).2.1 ∨ (cH2 s).2.2 ≠ 0) := nm_le k5
  refine S.call hA (R.callF Tryd.func33 rfl rfl rfl) rfl (number30 s rb 5 k5 hs 1125899906842624 _ (hM.hereN 1)) ?_; clear hA a
  rintro e w2 ⟨rfl, hn⟩
  replace hM : Mem _ _ [pt rb #[.string s, .int .i64 ((((cH2 s).2.1 : Nat) : Int))] 51] _ := hM.callL 1 hn; clear hn
  refine ⟨.tuple #[.int .i64 ((cH2 s).1), .int .i64 ((cH2 s).2.2)], rfl, fun a hA => ?_⟩
  refine S.val hA (R.move rfl) rfl ?_; clear hA a; intro a hA
  refine S.val hA (R.extract (v := .int .i64 ((cH2 s).1)) rfl rfl) rfl ?_; clear hA a; intro a hA
  refine S.val hA (R.extract (v := .int .i64 ((cH2 s).2.2)) rfl rfl) rfl ?_; clear hA a; intro a hA
  refine S.val hA (R.assign rfl) rfl ?_; clear hA a; intro a hA
  refine S.val hA (R.assign rfl) rfl ?_; clear hA a; intro a hA
  refine S.done ?_
  replace hA : St 46 [(0, _), (2, _), (4, _)] a := hA.sub ((.cons rfl (.cons rfl (.cons rfl .nil))))
  refine Ends.seq (Ends.region ?_)
  refine S.val hA (R.move rfl) rfl ?_; clear hA a; intro a hA
  refine S.val hA (R.neq rfl rfl) rfl ?_; clear hA a; intro a hA
  refine S.done ?_
  refine Ends.ite hA rfl (fun hc2 => ?_) (fun hc2 => ?_)
  ·
   have hT : cHd s = (cH2 s).2 := by unfold cHd; rw [if_neg (not_not_intro f1), if_pos hc2]
   refine Ends.seq (Ends.region ?_)
   refine S.val hA (R.move rfl) rfl ?_; clear hA a; intro a hA
   refine S.val hA (R.assign rfl) rfl ?_; clear hA a; intro a hA
   refine S.val hA (R.assign rfl) rfl ?_; clear hA a; intro a hA
   refine S.val hA (R.assign rfl) rfl ?_; clear hA a; intro a hA
   refine S.done ?_
   refine Ends.ret3 Tryd.func21 Tryd.results21 hA rfl rfl rfl ?_
   replace hM := hM.firstN 1
   replace hM : Mem _ _ [pt rb #[.string s, .int .i64 ((((cH2 s).2.1 : Nat) : Int))] 51] _ := hM
   rw [hT]
   exact ⟨_, _, rfl, fun h9 => absurd h9 hc2, hM⟩
  ·
   have f2 := Decidable.not_not.1 hc2
   refine Ends.skip (Ends.seq (Ends.seq (Ends.region ?_)))
   refine S.val hA (R.move rfl) rfl ?_; clear hA a; intro a hA
   refine S.call hA (R.callF Tryd.func32 rfl rfl rfl) rfl ((by have h9 := signs30 s rb (cH2 s).2.1 (by omega) hs ⟨#[32]⟩ [32] (by decide) (by decide) (by decide) _ (hM.hereN 1); rw [sg1_e] at h9; exact h9)) ?_; clear hA a
   rintro e w3 ⟨rfl, hn⟩
   replace hM : Mem _ _ [pt rb #[.string s, .int .i64 ((((sgW s [32] (cH2 s).2.1).1 : Nat) : Int))] 51] _ := hM.callL 1 hn; clear hn
   refine ⟨.int .i64 (sgE s (cH2 s).2.1 32), rfl, fun a hA => ?_⟩
   refine S.val hA (R.assign rfl) rfl ?_; clear hA a; intro a hA
   refine S.done ?_
   replace hA : St 46 [(0, _), (2, _), (4, _)] a := hA.sub ((.cons rfl (.cons rfl (.cons rfl .nil))))
   refine Ends.seq (Ends.region ?_)
   refine S.val hA (R.move rfl) rfl ?_; clear hA a; intro a hA
   refine S.val hA (R.neq rfl rfl) rfl ?_; clear hA a; intro a hA
   refine S.done ?_
   refine Ends.ite hA rfl (fun hc3 => ?_) (fun hc3 => ?_)
   ·
    have hT : cHd s = ((cH2 s).2.1, sgE s (cH2 s).2.1 32) := by unfold cHd; rw [if_neg (not_not_intro f1), if_neg (not_not_intro f2), if_pos hc3]
    refine Ends.seq (Ends.region ?_)
    refine S.val hA (R.move rfl) rfl ?_; clear hA a; intro a hA
    refine S.val hA (R.assign rfl) rfl ?_; clear hA a; intro a hA
    refine S.val hA (R.assign rfl) rfl ?_; clear hA a; intro a hA
    refine S.val hA (R.assign rfl) rfl ?_; clear hA a; intro a hA
    refine S.done ?_
    refine Ends.ret3 Tryd.func21 Tryd.results21 hA rfl rfl rfl ?_
    replace hM := hM.firstN 1
    replace hM : Mem _ _ [pt rb #[.string s, .int .i64 ((((sgW s [32] (cH2 s).2.1).1 : Nat) : Int))] 51] _ := hM
    rw [sg1_no hc3] at hM
    rw [hT]
    exact ⟨_, _, rfl, fun h9 => absurd h9 hc3, hM⟩
   ·
    have f3 := Decidable.not_not.1 hc3
    refine Ends.skip (Ends.seq ?_)
    have k3 := sgE_lt f3
    rw [sg1_ok f3] at hM
    replace hM : Mem _ _ [pt rb #[.string s, .int .i64 ((((cH2 s).2.1 + 1 : Nat) : Int))] 51] _ := hM
    refine Ends.region ?_
    refine S.val hA (R.move rfl) rfl ?_; clear hA a; intro a hA
    refine S.val hA (R.nilCheck rfl) rfl ?_; clear hA a; intro a hA
    refine S.val hA (R.fieldAddr (q := 1) fi51_1 rfl rfl rfl) rfl ?_; clear hA a; intro a hA
    refine S.val hA (R.load sz3 rfl (hM.cell (k := 0) rfl rfl)) rfl ?_; clear hA a; intro a hA
    refine S.val hA (R.assign rfl) rfl ?_; clear hA a; intro a hA
    refine S.done ?_
    replace hA : St 46 [(0, _), (2, _), (5, _)] a := hA.sub ((.cons rfl (.cons rfl (.cons rfl .nil))))
    refine Ends.seq (Ends.seq (Ends.region ?_))
    refine S.val hA (R.move rfl) rfl ?_; clear hA a; intro a hA
    have hn3 : (cH2 s).2.1 + 1 ≤ (cH3 s).2.1 ∧ (cH3 s).2.1 ≤ s.size ∧ ((cH2 s).2.1 + 1 < (cH3 s).2.1 ∨ (cH3 s).2.2 ≠ 0) := nm_le (by omega)
    refine S.call hA (R.callF Tryd.func33 rfl rfl rfl) rfl (number30 s rb ((cH2 s).2.1 + 1) (by omega) hs 64 _ (hM.hereN 1)) ?_; clear hA a
    rintro e w4 ⟨rfl, hn⟩
    replace hM : Mem _ _ [pt rb #[.string s, .int .i64 ((((cH3 s).2.1 : Nat) : Int))] 51] _ := hM.callL 1 hn; clear hn
    refine ⟨.tuple #[.int .i64 ((cH3 s).1), .int .i64 ((cH3 s).2.2)], rfl, fun a hA => ?_⟩
    refine S.val hA (R.move rfl) rfl ?_; clear hA a; intro a hA
    refine S.val hA (R.extract (v := .int .i64 ((cH3 s).1)) rfl rfl) rfl ?_; clear hA a; intro a hA
    refine S.val hA (R.extract (v := .int .i64 ((cH3 s).2.2)) rfl rfl) rfl ?_; clear hA a; intro a hA
    refine S.val hA (R.assign rfl) rfl ?_; clear hA a; intro a hA
    refine S.val hA (R.assign rfl) rfl ?_; clear hA a; intro a hA
    refine S.done ?_
    replace hA : St 46 [(0, _), (2, _), (3, _), (4, _), (5, _)] a := hA.sub ((.cons rfl (.cons rfl (.cons rfl (.cons rfl (.cons rfl .nil))))))
    refine Ends.seq (Ends.region ?_)
    refine S.val hA (R.move rfl) rfl ?_; clear hA a; intro a hA
    refine S.val hA (R.neq rfl rfl) rfl ?_; clear hA a; intro a hA
    refine S.done ?_
    refine Ends.ite hA rfl (fun hc4 => ?_) (fun hc4 => ?_)
    ·
     have hT : cHd s = (cH3 s).2 := by unfold cHd; rw [if_neg (not_not_intro f1), if_neg (not_not_intro f2), if_neg (not_not_intro f3), if_pos hc4]
     refine Ends.seq (Ends.region ?_)
     refine S.val hA (R.move rfl) rfl ?_; clear hA a; intro a hA
     refine S.val hA (R.assign rfl) rfl ?_; clear hA a; intro a hA
     refine S.val hA (R.assign rfl) rfl ?_; clear hA a; intro a hA
     refine S.val hA (R.assign rfl) rfl ?_; clear hA a; intro a hA
     refine S.done ?_
     refine Ends.ret3 Tryd.func21 Tryd.results21 hA rfl rfl rfl ?_
     replace hM := hM.firstN 1
     replace hM : Mem _ _ [pt rb #[.string s, .int .i64 ((((cH3 s).2.1 : Nat) : Int))] 51] _ := hM
     rw [hT]
     exact ⟨_, _, rfl, fun h9 => absurd h9 hc4, hM⟩
    ·
     have f4 := Decidable.not_not.1 hc4
     refine Ends.skip (Ends.seq (Ends.seq (Ends.region ?_)))
     refine S.val hA (R.move rfl) rfl ?_; clear hA a; intro a hA
     refine S.val hA (R.eql rfl rfl) rfl ?_; clear hA a; intro a hA
     refine S.done ?_
     replace hA : St 46 [(0, _), (2, _), (3, _), (5, _), (37, _)] a := hA.sub ((.cons rfl (.cons rfl (.cons rfl (.cons rfl (.cons rfl .nil))))))
     refine Ends.ite hA rfl (fun hc5 => ?_) (fun hc5 => ?_)
     ·
      have hT : cHd s = ((cH2 s).2.1 + 1, 1) := by unfold cHd; rw [if_neg (not_not_intro f1), if_neg (not_not_intro f2), if_neg (not_not_intro f3), if_neg (not_not_intro f4), if_pos hc5]
      refine Ends.seq (Ends.region ?_)
      refine S.val hA (R.move rfl) rfl ?_; clear hA a; intro a hA
      refine S.val hA (R.move rfl) rfl ?_; clear hA a; intro a hA
      refine S.val hA (R.nilCheck rfl) rfl ?_; clear hA a; intro a hA
      refine S.val hA (R.fieldAddr (q := 1) fi51_1 rfl rfl rfl) rfl ?_; clear hA a; intro a hA
      refine S.store (k := 0) hA hM sz3 rfl rfl rfl rfl rfl ?_; clear hM
      intro w5 hM
      replace hM : Mem _ _ [pt rb #[.string s, .int .i64 ((((cH2 s).2.1 + 1 : Nat) : Int))] 51] _ := hM
      refine S.done ?_
      replace hA : St 46 [(0, _)] a := hA.sub ((.cons rfl .nil))
      refine Ends.seq (Ends.region ?_)
      refine S.val hA (R.assign rfl) rfl ?_; clear hA a; intro a hA
      refine S.val hA (R.assign rfl) rfl ?_; clear hA a; intro a hA
      refine S.val hA (R.assign rfl) rfl ?_; clear hA a; intro a hA
      refine S.done ?_
      refine Ends.ret3 Tryd.func21 Tryd.results21 hA rfl rfl rfl ?_
      replace hM := hM.firstN 1
      replace hM : Mem _ _ [pt rb #[.string s, .int .i64 ((((cH2 s).2.1 + 1 : Nat) : Int))] 51] _ := hM
      rw [hT]
      exact ⟨_, _, rfl, fun h9 => absurd (show (1 : Int) = 0 from h9) (by decide), hM⟩
     ·
      have f5 : ¬ (cH3 s).1 = 0 := hc5
      refine Ends.skip (Ends.seq (Ends.region ?_))
      refine S.val hA (R.move rfl) rfl ?_; clear hA a; intro a hA
      refine S.val hA (R.move rfl) rfl ?_; clear hA a; intro a hA
      refine S.val hA (R.move rfl) rfl ?_; clear hA a; intro a hA
      refine S.call hA (R.callF Tryd.func32 rfl rfl rfl) rfl (signs30 s rb (cH3 s).2.1 (by omega) hs ⟨#[10]⟩ [10] (by decide) (by decide) (by decide) _ (hM.hereN 1)) ?_; clear hA a
      rintro e w6 ⟨rfl, hn⟩
      replace hM : Mem _ _ [pt rb #[.string s, .int .i64 ((((sgW s [10] (cH3 s).2.1).1 : Nat) : Int))] 51] _ := hM.callL 1 hn; clear hn
      refine ⟨.int .i64 ((sgW s [10] (cH3 s).2.1).2), rfl, fun a hA => ?_⟩
      refine S.val hA (R.assign rfl) rfl ?_; clear hA a; intro a hA
      refine S.val hA (R.assign rfl) rfl ?_; clear hA a; intro a hA
      refine S.val hA (R.assign rfl) rfl ?_; clear hA a; intro a hA
      refine S.done ?_
      replace hA : St 46 [(2, _), (3, _), (4, _)] a := hA.sub ((.cons rfl (.cons rfl (.cons rfl .nil))))
      refine Ends.ret3 Tryd.func21 Tryd.results21 hA rfl rfl rfl ?_
      replace hM := hM.firstN 1
      replace hM : Mem _ _ [pt rb #[.string s, .int .i64 ((((sgW s [10] (cH3 s).2.1).1 : Nat) : Int))] 51] _ := hM
      have hT := cHd_fin f1 f2 f3 f4 f5
      rw [hT]
      exact ⟨_, _, rfl, fun _ => ⟨rfl, rfl⟩, hM⟩
theorem cNb_len (s : ByteArray) (n p : Nat) : ∀ k, (cNb s n p k).2.2 = 0 → (cNb s n p k).1.length = k
  | 0, _ => rfl
  | k + 1, h => by
    rw [cNb] at h ⊢
    split at h
    · rename_i e; exact absurd h e
    rename_i e; rw [if_neg e]
    split at h
    · rename_i e; exact absurd h e
    rename_i e2; rw [if_neg e2]
    split at h
    · rename_i e; exact absurd h e
    rename_i e3; rw [if_neg e3, List.length_append, cNb_len s n p k (Decidable.not_not.1 e)]; rfl
set_option maxRecDepth 100000 in
set_option maxHeartbeats 400000 in
theorem numbers30 (s : ByteArray) (rb p : Nat) (hp : p ≤ s.size) (hs : s.size ≤ 4611686018427387904) (n : Nat) (hn1 : 1 ≤ n) (hn64 : n ≤ 64) (w : World) (hM : Mem w (feet [pt rb #[.string s, .int .i64 ((p : Int))] 51]) [pt rb #[.string s, .int .i64 ((p : Int))] 51] w) :
  Calls Tryd.prog 22 #[.pointer (some ⟨rb, 0, none⟩), .int .i64 ((n : Int))] w fun e w' => ∃ oa oc, e = .returned (.tuple #[.slice oa (cNb s n p n).1.length oc, .int .i64 (cNb s n p n).2.2]) ∧ Mem w (feet [pt rb #[.string s, .int .i64 ((p : Int))] 51]) [pt rb #[.string s, .int .i64 ((((cNb s n p n).2.1 : Nat) : Int))] 51, own 3 1 (.slice oa (((cNb s n p n).1).length) oc) (((cNb s n p n).1).length) (((cNb s n p n).1).map (Value.int .i64))] w' := by
 have hbs := Below.refl (B := w.heap.size) w
 refine Calls.of_ends (vs := [.pointer (some ⟨rb, 0, none⟩), .int .i64 ((n : Int))]) Tryd.func22 rfl Tryd.ntmps22 rfl ?_
 intro a hA
 replace hA : St 40 [(0, _), (1, _)] a := hA
 refine Ends.seq (Ends.region ?_)
 refine S.val hA (R.assign rfl) rfl ?_; clear hA a; intro a hA
 refine S.val hA (R.assign rfl) rfl ?_; clear hA a; intro a hA
 refine S.done ?_
 refine Ends.seq (Ends.region ?_)
 refine S.val hA (R.assign rfl) rfl ?_; clear hA a; intro a hA
 refine S.done ?_
 refine Ends.seq (Ends.seq (Ends.region ?_))
 refine S.val hA (R.move rfl) rfl ?_; clear hA a; intro a hA
 refine S.val hA (R.move rfl) rfl ?_; clear hA a; intro a hA
 refine S.done ?_
 refine Ends.block ?_
 replace hM := hM.ownNil 3 1
 replace hM : Mem _ _ [own 3 1 (.slice none ((([] : List Int)).length) 0) ((([] : List Int)).length) ((([] : List Int)).map (Value.int .i64)), pt rb #[.string s, .int .i64 ((p : Int))] 51] _ := hM
 replace hM := hM.front (k := 1) rfl
 replace hM : Mem _ _ [pt rb #[.string s, .int .i64 ((((cNb s n p 0).2.1 : Nat) : Int))] 51, own 3 1 (.slice none (((cNb s n p 0).1).length) 0) (((cNb s n p 0).1).length) (((cNb s n p 0).1).map (Value.int .i64))] _ := hM
 refine Ends.loop (σ := Nat × Option Addr × Nat) (fun (k, oa, oc) (a : Act) (wv : World) => St 40 [(0, .pointer (some ⟨rb, 0, none⟩)), (1, .int .i64 ((n : Int))), (6, .slice oa ((cNb s n p k).1.length) oc), (12, .int .i64 ((n : Int))), (13, .int .i64 ((k : Int)))] a ∧ Mem w (feet [pt rb #[.string s, .int .i64 ((p : Int))] 51]) [pt rb #[.string s, .int .i64 ((((cNb s n p k).2.1 : Nat) : Int))] 51, own 3 1 (.slice oa (((cNb s n p k).1).length) oc) (((cNb s n p k).1).length) (((cNb s n p k).1).map (Value.int .i64))] wv ∧ (k ≤ n) ∧ ((cNb s n p k).2.2 = 0) ∧ ((cNb s n p k).2.1 ≤ s.size)) (fun (k, oa, oc) => n - k) ((0, none, 0)) ⟨hA.sub ((.cons rfl (.cons rfl (.cons rfl (.cons rfl (.cons rfl .nil)))))), hM, (Nat.zero_le _), rfl, hp⟩ ?_
 clear hA hM a
 rintro ⟨k, oa, oc⟩ a w1 ⟨hA, hM, hk, hz, hq⟩ hNext
 refine Ends.seq (Ends.region ?_)
 refine S.val hA (R.lss rfl rfl) rfl ?_; clear hA a; intro a hA
 refine S.done ?_
 refine Ends.seq ?_
 refine Ends.ite hA rfl (fun hc1 => ?_) (fun hc1 => ?_)
 ·
  have hlk := cNb_len s n p k hz
  refine Ends.skip (Ends.seq (Ends.block (Ends.seq (Ends.region ?_))))
  refine S.val hA (R.move rfl) rfl ?_; clear hA a; intro a hA
  refine S.val hA (R.assign rfl) rfl ?_; clear hA a; intro a hA
  refine S.done ?_
  refine Ends.seq (Ends.region ?_)
  refine S.val hA (R.move rfl) rfl ?_; clear hA a; intro a hA
  have hnl := nm_le (s := s) (p := (cNb s n p k).2.1) (most := 999) (by omega)
  have hnv := nm_val (s := s) (p := (cNb s n p k).2.1) (most := 999) (by decide)
  refine S.call hA (R.callF Tryd.func33 rfl rfl rfl) rfl (number30 s rb ((cNb s n p k).2.1) (by omega) hs 999 _ (hM.hereN 1)) ?_; clear hA a
  rintro e w2 ⟨rfl, hn⟩
  replace hM : Mem _ _ [pt rb #[.string s, .int .i64 ((((nmE s ((cNb s n p k).2.1) 999).2.1 : Nat) : Int))] 51, own 3 1 (.slice oa (((cNb s n p k).1).length) oc) (((cNb s n p k).1).length) (((cNb s n p k).1).map (Value.int .i64))] _ := hM.callL 1 hn; clear hn
  refine ⟨.tuple #[.int .i64 ((nmE s ((cNb s n p k).2.1) 999).1), .int .i64 ((nmE s ((cNb s n p k).2.1) 999).2.2)], rfl, fun a hA => ?_⟩
  refine S.val hA (R.move rfl) rfl ?_; clear hA a; intro a hA
  refine S.val hA (R.extract (v := .int .i64 ((nmE s ((cNb s n p k).2.1) 999).1)) rfl rfl) rfl ?_; clear hA a; intro a hA
  refine S.val hA (R.extract (v := .int .i64 ((nmE s ((cNb s n p k).2.1) 999).2.2)) rfl rfl) rfl ?_; clear hA a; intro a hA
  refine S.val hA (R.assign rfl) rfl ?_; clear hA a; intro a hA
  refine S.val hA (R.assign rfl) rfl ?_; clear hA a; intro a hA
  refine S.done ?_
  replace hA : St 40 [(0, _), (1, _), (6, _), (7, _), (8, _), (9, _), (12, _), (13, _)] a := hA.sub ((.cons rfl (.cons rfl (.cons rfl (.cons rfl (.cons rfl (.cons rfl (.cons rfl (.cons rfl .nil)))))))))
  refine Ends.seq (Ends.seq (Ends.region ?_))
  refine S.val hA (R.move rfl) rfl ?_; clear hA a; intro a hA
  refine S.val hA (R.neq rfl rfl) rfl ?_; clear hA a; intro a hA
  refine S.done ?_
  refine Ends.ite hA rfl (fun hc2 => ?_) (fun hc2 => ?_)
  ·
   have hT : (cNb s n p (k + 1)) = ([], (nmE s (cNb s n p k).2.1 999).2) := by rw [cNb, if_neg (not_not_intro hz), if_pos hc2]
   have hTd := cNb_stuck (s := s) (n := n) (p := p) (k := k + 1) (by rw [hT]; exact hc2) (n - (k + 1))
   rw [show k + 1 + (n - (k + 1)) = n by omega, hT] at hTd
   refine Ends.seq (Ends.region ?_)
   refine S.val hA (R.move rfl) rfl ?_; clear hA a; intro a hA
   refine S.val hA (R.assign rfl) rfl ?_; clear hA a; intro a hA
   refine S.val hA (R.assign rfl) rfl ?_; clear hA a; intro a hA
   refine S.done ?_
   replace hA : St 40 [(0, _), (1, _), (4, _), (5, _), (6, _), (7, _), (8, _), (12, _), (13, _)] a := hA.sub ((.cons rfl (.cons rfl (.cons rfl (.cons rfl (.cons rfl (.cons rfl (.cons rfl (.cons rfl (.cons rfl .nil))))))))))
   refine Ends.ret2 Tryd.func22 Tryd.results22 hA rfl rfl ?_
   replace hM := (hM.firstN 1).ownNil 3 1
   replace hM := hM.front (k := 1) rfl
   rw [hTd]
   exact ⟨none, 0, rfl, hM⟩
  ·
   have hz2 := Decidable.not_not.1 hc2
   refine Ends.skip (Ends.seq (Ends.region ?_))
   refine S.val hA (R.move rfl) rfl ?_; clear hA a; intro a hA
   refine S.val hA (R.move rfl) rfl ?_; clear hA a; intro a hA
   refine S.buildSl (cells := #[.int .i64 ((nmE s ((cNb s n p k).2.1) 999).1)]) hA hM Tryd.underlying22 info3 rfl rfl rfl rfl (by kernel_rfl) rfl ?_; clear hA hM a; intro b3 w3 hb4 hM a hA
   replace hM : Mem _ _ [pt b3 #[.int .i64 ((nmE s ((cNb s n p k).2.1) 999).1)] 3, pt rb #[.string s, .int .i64 ((((nmE s ((cNb s n p k).2.1) 999).2.1 : Nat) : Int))] 51, own 3 1 (.slice oa (((cNb s n p k).1).length) oc) (((cNb s n p k).1).length) (((cNb s n p k).1).map (Value.int .i64))] _ := hM
   refine S.append (k := 2) (k2 := 0) hA hM rfl rfl Tryd.underlying22 info3 rfl rfl rfl rfl rfl rfl rfl rfl rfl (by first | (unfold maxLen; omega) | (show (_ + 1) * 8 ≤ (140737488355328 : Nat); omega) | omega) (by first | (unfold maxLen; omega) | (show (_ + 1) * 8 ≤ (140737488355328 : Nat); omega) | omega) rfl ?_; clear hA hM a; intro a5 c6 w4 hM a hA
   replace hM : Mem _ _ [pt b3 #[.int .i64 ((nmE s ((cNb s n p k).2.1) 999).1)] 3, pt rb #[.string s, .int .i64 ((((nmE s ((cNb s n p k).2.1) 999).2.1 : Nat) : Int))] 51, own 3 1 (.slice a5 ((((cNb s n p k).1).length) + 1) c6) ((((cNb s n p k).1).length) + 1) (((cNb s n p k).1).map (Value.int .i64) ++ [.int .i64 ((nmE s ((cNb s n p k).2.1) 999).1)])] _ := hM
   have hl7 : (((cNb s n p k).1).length) + 1 = ((cNb s n p k).1 ++ [(nmE s ((cNb s n p k).2.1) 999).1]).length := by simp
   rw [hl7, show ((cNb s n p k).1).map (Value.int .i64) ++ [.int .i64 ((nmE s ((cNb s n p k).2.1) 999).1)] = ((cNb s n p k).1 ++ [(nmE s ((cNb s n p k).2.1) 999).1]).map (Value.int .i64) by simp] at hM; rw [hl7] at hA
   clear hl7
   replace hM := hM.drop 0
   replace hM : Mem _ _ [pt rb #[.string s, .int .i64 ((((nmE s ((cNb s n p k).2.1) 999).2.1 : Nat) : Int))] 51, own 3 1 (.slice a5 ((((cNb s n p k).1 ++ [(nmE s ((cNb s n p k).2.1) 999).1])).length) c6) ((((cNb s n p k).1 ++ [(nmE s ((cNb s n p k).2.1) 999).1])).length) ((((cNb s n p k).1 ++ [(nmE s ((cNb s n p k).2.1) 999).1])).map (Value.int .i64))] _ := hM
   refine S.val hA (R.assign rfl) rfl ?_; clear hA a; intro a hA
   refine S.done ?_
   replace hA : St 40 [(0, _), (1, _), (6, _), (7, _), (12, _), (13, _)] a := hA.sub ((.cons rfl (.cons rfl (.cons rfl (.cons rfl (.cons rfl (.cons rfl .nil)))))))
   refine Ends.seq (Ends.region ?_)
   refine S.val hA (R.assign rfl) rfl ?_; clear hA a; intro a hA
   refine S.done ?_
   refine Ends.seq (Ends.seq (Ends.region ?_))
   refine S.val hA (R.move rfl) rfl ?_; clear hA a; intro a hA
   refine S.val hA (R.move rfl) rfl ?_; clear hA a; intro a hA
   refine S.val hA (R.subI rfl rfl (r := ((n : Int)) - 1) rfl (by omega)) rfl ?_; clear hA a; intro a hA
   refine S.val hA (R.eql rfl rfl) rfl ?_; clear hA a; intro a hA
   refine S.done ?_
   replace hA : St 40 [(0, _), (1, _), (6, _), (10, _), (12, _), (13, _), (31, _)] a := hA.sub ((.cons rfl (.cons rfl (.cons rfl (.cons rfl (.cons rfl (.cons rfl (.cons rfl .nil))))))))
   refine Ends.ite hA rfl (fun hc8 => ?_) (fun hc8 => ?_)
   ·
    have hbh : bhd n k = 10 := by unfold bhd; rw [if_pos (by omega)]
    refine Ends.region ?_
    refine S.val hA (R.assign rfl) rfl ?_; clear hA a; intro a hA
    refine S.done ?_
    refine Ends.seq (Ends.region ?_)
    refine S.val hA (R.move rfl) rfl ?_; clear hA a; intro a hA
    refine S.val hA (R.move rfl) rfl ?_; clear hA a; intro a hA
    refine S.call hA (R.callF Tryd.func32 rfl rfl rfl) rfl (signs30 s rb (nmE s (cNb s n p k).2.1 999).2.1 (by omega) hs ⟨#[10]⟩ [10] (by decide) (by decide) (by decide) _ (hM.hereN 1)) ?_; clear hA a
    rintro e w5 ⟨rfl, hn⟩
    replace hM : Mem _ _ [pt rb #[.string s, .int .i64 ((((sgW s [10] (nmE s (cNb s n p k).2.1 999).2.1).1 : Nat) : Int))] 51, own 3 1 (.slice a5 ((((cNb s n p k).1 ++ [(nmE s ((cNb s n p k).2.1) 999).1])).length) c6) ((((cNb s n p k).1 ++ [(nmE s ((cNb s n p k).2.1) 999).1])).length) ((((cNb s n p k).1 ++ [(nmE s ((cNb s n p k).2.1) 999).1])).map (Value.int .i64))] _ := hM.callL 1 hn; clear hn
    refine ⟨.int .i64 ((sgW s [10] (nmE s (cNb s n p k).2.1 999).2.1).2), rfl, fun a hA => ?_⟩
    refine S.val hA (R.assign rfl) rfl ?_; clear hA a; intro a hA
    refine S.done ?_
    replace hA : St 40 [(0, _), (1, _), (6, _), (11, _), (12, _), (13, _)] a := hA.sub ((.cons rfl (.cons rfl (.cons rfl (.cons rfl (.cons rfl (.cons rfl .nil)))))))
    refine Ends.seq (Ends.region ?_)
    refine S.val hA (R.move rfl) rfl ?_; clear hA a; intro a hA
    refine S.val hA (R.neq rfl rfl) rfl ?_; clear hA a; intro a hA
    refine S.done ?_
    refine Ends.ite hA rfl (fun hc9 => ?_) (fun hc9 => ?_)
    ·
     have hs3 : sgE s (nmE s (cNb s n p k).2.1 999).2.1 (bhd n k) ≠ 0 := by rw [hbh, ← sg1_e]; exact hc9
     have hT : (cNb s n p (k + 1)) = ([], (nmE s (cNb s n p k).2.1 999).2.1, sgE s (nmE s (cNb s n p k).2.1 999).2.1 (bhd n k)) := by rw [cNb, if_neg (not_not_intro hz), if_neg (not_not_intro hz2), if_pos hs3]
     have hTd := cNb_stuck (s := s) (n := n) (p := p) (k := k + 1) (by rw [hT]; exact hs3) (n - (k + 1))
     rw [show k + 1 + (n - (k + 1)) = n by omega, hT] at hTd
     rw [hbh] at hTd hs3
     rw [sg1_no hs3] at hM hA
     refine Ends.seq (Ends.region ?_)
     refine S.val hA (R.move rfl) rfl ?_; clear hA a; intro a hA
     refine S.val hA (R.assign rfl) rfl ?_; clear hA a; intro a hA
     refine S.val hA (R.assign rfl) rfl ?_; clear hA a; intro a hA
     refine S.done ?_
     replace hA : St 40 [(0, _), (1, _), (4, _), (5, _), (6, _), (12, _), (13, _)] a := hA.sub ((.cons rfl (.cons rfl (.cons rfl (.cons rfl (.cons rfl (.cons rfl (.cons rfl .nil))))))))
     refine Ends.ret2 Tryd.func22 Tryd.results22 hA rfl rfl ?_
     replace hM := (hM.firstN 1).ownNil 3 1
     replace hM := hM.front (k := 1) rfl
     rw [hTd]
     exact ⟨none, 0, rfl, hM⟩
    ·
     have hs3 : sgE s (nmE s (cNb s n p k).2.1 999).2.1 (bhd n k) = 0 := by rw [hbh, ← sg1_e]; exact Decidable.not_not.1 hc9
     have hT : (cNb s n p (k + 1)) = ((cNb s n p k).1 ++ [(nmE s (cNb s n p k).2.1 999).1], (nmE s (cNb s n p k).2.1 999).2.1 + 1, 0) := by rw [cNb, if_neg (not_not_intro hz), if_neg (not_not_intro hz2), if_neg (not_not_intro hs3)]
     have hq3 := sgE_lt hs3
     rw [hbh] at hs3
     rw [sg1_ok hs3] at hM
     refine Ends.skip (Ends.inBlock ?_)
     have hX9 : ((cNb s n p k).1 ++ [(nmE s ((cNb s n p k).2.1) 999).1]) = (cNb s n p (k + 1)).1 := by rw [hT]
     have hP9 : (nmE s (cNb s n p k).2.1 999).2.1 + 1 = (cNb s n p (k + 1)).2.1 := by rw [hT]
     rw [hX9] at hM hA
     simp only at hM
     rw [hP9] at hM
     replace hM : Mem _ _ [pt rb #[.string s, .int .i64 ((((cNb s n p (k + 1)).2.1 : Nat) : Int))] 51, own 3 1 (.slice a5 (((cNb s n p (k + 1)).1).length) c6) (((cNb s n p (k + 1)).1).length) (((cNb s n p (k + 1)).1).map (Value.int .i64))] _ := hM
     refine Ends.region ?_
     refine S.val hA (R.addI rfl rfl (r := ((k : Int)) + 1) rfl (by omega)) rfl ?_; clear hA a; intro a hA
     refine S.val hA (R.move rfl) rfl ?_; clear hA a; intro a hA
     refine S.done ?_
     replace hA : St 40 [(0, _), (1, _), (6, _), (12, _), (13, _)] a := hA.sub ((.cons rfl (.cons rfl (.cons rfl (.cons rfl (.cons rfl .nil))))))
     replace hM := hM.front (k := 1) rfl
     replace hM := hM.front (k := 1) rfl
     replace hM := hM.firstN 2
     replace hM : Mem _ _ [pt rb #[.string s, .int .i64 ((((cNb s n p (k + 1)).2.1 : Nat) : Int))] 51, own 3 1 (.slice a5 (((cNb s n p (k + 1)).1).length) c6) (((cNb s n p (k + 1)).1).length) (((cNb s n p (k + 1)).1).map (Value.int .i64))] _ := hM
     exact hNext ((k + 1, a5, c6)) _ _ ((by show n - (k + 1) < n - k; omega)) ⟨hA.sub ((.cons rfl (.cons rfl (.cons rfl (.cons rfl (.cons rfl .nil)))))), hM, (by omega), (by rw [hT]), (by rw [hT]; simp only; omega)⟩
   ·
    have hbh : bhd n k = 32 := by unfold bhd; rw [if_neg (by omega)]
    refine Ends.skip (Ends.seq (Ends.region ?_))
    refine S.val hA (R.move rfl) rfl ?_; clear hA a; intro a hA
    refine S.val hA (R.move rfl) rfl ?_; clear hA a; intro a hA
    refine S.call hA (R.callF Tryd.func32 rfl rfl rfl) rfl (signs30 s rb (nmE s (cNb s n p k).2.1 999).2.1 (by omega) hs ⟨#[32]⟩ [32] (by decide) (by decide) (by decide) _ (hM.hereN 1)) ?_; clear hA a
    rintro e w6 ⟨rfl, hn⟩
    replace hM : Mem _ _ [pt rb #[.string s, .int .i64 ((((sgW s [32] (nmE s (cNb s n p k).2.1 999).2.1).1 : Nat) : Int))] 51, own 3 1 (.slice a5 ((((cNb s n p k).1 ++ [(nmE s ((cNb s n p k).2.1) 999).1])).length) c6) ((((cNb s n p k).1 ++ [(nmE s ((cNb s n p k).2.1) 999).1])).length) ((((cNb s n p k).1 ++ [(nmE s ((cNb s n p k).2.1) 999).1])).map (Value.int .i64))] _ := hM.callL 1 hn; clear hn
    refine ⟨.int .i64 ((sgW s [32] (nmE s (cNb s n p k).2.1 999).2.1).2), rfl, fun a hA => ?_⟩
    refine S.val hA (R.assign rfl) rfl ?_; clear hA a; intro a hA
    refine S.done ?_
    replace hA : St 40 [(0, _), (1, _), (6, _), (11, _), (12, _), (13, _)] a := hA.sub ((.cons rfl (.cons rfl (.cons rfl (.cons rfl (.cons rfl (.cons rfl .nil)))))))
    refine Ends.seq (Ends.region ?_)
    refine S.val hA (R.move rfl) rfl ?_; clear hA a; intro a hA
    refine S.val hA (R.neq rfl rfl) rfl ?_; clear hA a; intro a hA
    refine S.done ?_
    refine Ends.ite hA rfl (fun hc10 => ?_) (fun hc10 => ?_)
    ·
     have hs3 : sgE s (nmE s (cNb s n p k).2.1 999).2.1 (bhd n k) ≠ 0 := by rw [hbh, ← sg1_e]; exact hc10
     have hT : (cNb s n p (k + 1)) = ([], (nmE s (cNb s n p k).2.1 999).2.1, sgE s (nmE s (cNb s n p k).2.1 999).2.1 (bhd n k)) := by rw [cNb, if_neg (not_not_intro hz), if_neg (not_not_intro hz2), if_pos hs3]
     have hTd := cNb_stuck (s := s) (n := n) (p := p) (k := k + 1) (by rw [hT]; exact hs3) (n - (k + 1))
     rw [show k + 1 + (n - (k + 1)) = n by omega, hT] at hTd
     rw [hbh] at hTd hs3
     rw [sg1_no hs3] at hM hA
     refine Ends.seq (Ends.region ?_)
     refine S.val hA (R.move rfl) rfl ?_; clear hA a; intro a hA
     refine S.val hA (R.assign rfl) rfl ?_; clear hA a; intro a hA
     refine S.val hA (R.assign rfl) rfl ?_; clear hA a; intro a hA
     refine S.done ?_
     replace hA : St 40 [(0, _), (1, _), (4, _), (5, _), (6, _), (12, _), (13, _)] a := hA.sub ((.cons rfl (.cons rfl (.cons rfl (.cons rfl (.cons rfl (.cons rfl (.cons rfl .nil))))))))
     refine Ends.ret2 Tryd.func22 Tryd.results22 hA rfl rfl ?_
     replace hM := (hM.firstN 1).ownNil 3 1
     replace hM := hM.front (k := 1) rfl
     rw [hTd]
     exact ⟨none, 0, rfl, hM⟩
    ·
     have hs3 : sgE s (nmE s (cNb s n p k).2.1 999).2.1 (bhd n k) = 0 := by rw [hbh, ← sg1_e]; exact Decidable.not_not.1 hc10
     have hT : (cNb s n p (k + 1)) = ((cNb s n p k).1 ++ [(nmE s (cNb s n p k).2.1 999).1], (nmE s (cNb s n p k).2.1 999).2.1 + 1, 0) := by rw [cNb, if_neg (not_not_intro hz), if_neg (not_not_intro hz2), if_neg (not_not_intro hs3)]
     have hq3 := sgE_lt hs3
     rw [hbh] at hs3
     rw [sg1_ok hs3] at hM
     refine Ends.skip (Ends.inBlock ?_)
     have hX9 : ((cNb s n p k).1 ++ [(nmE s ((cNb s n p k).2.1) 999).1]) = (cNb s n p (k + 1)).1 := by rw [hT]
     have hP9 : (nmE s (cNb s n p k).2.1 999).2.1 + 1 = (cNb s n p (k + 1)).2.1 := by rw [hT]
     rw [hX9] at hM hA
     simp only at hM
     rw [hP9] at hM
     replace hM : Mem _ _ [pt rb #[.string s, .int .i64 ((((cNb s n p (k + 1)).2.1 : Nat) : Int))] 51, own 3 1 (.slice a5 (((cNb s n p (k + 1)).1).length) c6) (((cNb s n p (k + 1)).1).length) (((cNb s n p (k + 1)).1).map (Value.int .i64))] _ := hM
     refine Ends.region ?_
     refine S.val hA (R.addI rfl rfl (r := ((k : Int)) + 1) rfl (by omega)) rfl ?_; clear hA a; intro a hA
     refine S.val hA (R.move rfl) rfl ?_; clear hA a; intro a hA
     refine S.done ?_
     replace hA : St 40 [(0, _), (1, _), (6, _), (12, _), (13, _)] a := hA.sub ((.cons rfl (.cons rfl (.cons rfl (.cons rfl (.cons rfl .nil))))))
     replace hM := hM.front (k := 1) rfl
     replace hM := hM.front (k := 1) rfl
     replace hM := hM.firstN 2
     replace hM : Mem _ _ [pt rb #[.string s, .int .i64 ((((cNb s n p (k + 1)).2.1 : Nat) : Int))] 51, own 3 1 (.slice a5 (((cNb s n p (k + 1)).1).length) c6) (((cNb s n p (k + 1)).1).length) (((cNb s n p (k + 1)).1).map (Value.int .i64))] _ := hM
     exact hNext ((k + 1, a5, c6)) _ _ ((by show n - (k + 1) < n - k; omega)) ⟨hA.sub ((.cons rfl (.cons rfl (.cons rfl (.cons rfl (.cons rfl .nil)))))), hM, (by omega), (by rw [hT]), (by rw [hT]; simp only; omega)⟩
 ·
  have hke : k = n := by omega
  refine Ends.exit rfl ?_
  replace hA : St 40 [(6, _)] a := hA.sub ((.cons rfl .nil))
  refine Ends.seq (Ends.region ?_)
  refine S.val hA (R.move rfl) rfl ?_; clear hA a; intro a hA
  refine S.val hA (R.assign rfl) rfl ?_; clear hA a; intro a hA
  refine S.val hA (R.assign rfl) rfl ?_; clear hA a; intro a hA
  refine S.done ?_
  refine Ends.ret2 Tryd.func22 Tryd.results22 hA rfl rfl ?_
  replace hM := hM.front (k := 1) rfl
  replace hM := hM.front (k := 1) rfl
  replace hM := hM.firstN 2
  rw [hke] at hM hz ⊢
  rw [hz]
  exact ⟨_, _, rfl, hM⟩
set_option maxRecDepth 100000 in
set_option maxHeartbeats 400000 in
theorem tree30 (s : ByteArray) (rb p : Nat) (hp : p ≤ s.size) (hs : s.size ≤ 4611686018427387904) (w : World) (hM : Mem w (feet [pt rb #[.string s, .int .i64 ((p : Int))] 51]) [pt rb #[.string s, .int .i64 ((p : Int))] 51] w) :
  Calls Tryd.prog 23 #[.pointer (some ⟨rb, 0, none⟩)] w fun e w' => ∃ u, e = .returned (.tuple #[.string u, .int .i64 (cTr s p).2]) ∧ ((cTr s p).2 = 0 → u = s.extract p (p + cLt s p)) ∧ Mem w (feet [pt rb #[.string s, .int .i64 ((p : Int))] 51]) [pt rb #[.string s, .int .i64 ((((cTr s p).1 : Nat) : Int))] 51] w' := by
 have hbs := Below.refl (B := w.heap.size) w
 have hrs : (s.extract p s.size).size = s.size - p := size_ext (Nat.le_refl _)
 refine Calls.of_ends (vs := [.pointer (some ⟨rb, 0, none⟩)]) Tryd.func23 rfl Tryd.ntmps23 rfl ?_
 intro a hA
 replace hA : St 65 [(0, _)] a := hA
 refine Ends.seq (Ends.region ?_)
 refine S.val hA (R.assign rfl) rfl ?_; clear hA a; intro a hA
 refine S.val hA (R.assign rfl) rfl ?_; clear hA a; intro a hA
 refine S.done ?_
 refine Ends.seq ?_
 refine Ends.drawn (Mem w (feet [pt rb #[.string s, .int .i64 ((p : Int))] 51]) [pt rb #[.string s, .int .i64 ((p : Int))] 51]) (.cons (0, true) (.cons (1, true) (.cons (2, true) (.cons (3, true) (.cons (4, true) (.cons (5, true) (.cons (6, true) (.cons (7, true) (.cons (8, true) (.cons (9, true) .nil)))))))))) 10 mixed (by kernel_rfl) (by kernel_rfl) (by kernel_rfl) hM.drew ?_
 replace hM := hM.drew
 refine D.valF hA rfl (fun _ => R.move rfl) rfl ?_; clear hA a; intro a hA
 refine D.valF hA rfl (fun _ => R.nilCheck rfl) rfl ?_; clear hA a; intro a hA
 refine D.valF hA rfl (fun _ => R.fieldAddr (q := 0) fi51_0 rfl rfl rfl) rfl ?_; clear hA a; intro a hA
 refine D.val hA rfl (by kernel_rfl) (fun _ hM => R.load sz9 rfl (hM.cell (k := 0) rfl rfl)) rfl ?_; clear hA a; intro a hA
 refine D.valF hA rfl (fun _ => R.move rfl) rfl ?_; clear hA a; intro a hA
 refine D.valF hA rfl (fun _ => R.nilCheck rfl) rfl ?_; clear hA a; intro a hA
 refine D.valF hA rfl (fun _ => R.fieldAddr (q := 1) fi51_1 rfl rfl rfl) rfl ?_; clear hA a; intro a hA
 refine D.val hA rfl (by kernel_rfl) (fun _ hM => R.load sz3 rfl (hM.cell (k := 0) rfl rfl)) rfl ?_; clear hA a; intro a hA
 refine D.valF hA rfl (fun _ => R.to (v := .string ((s.extract p s.size))) (R.sliceSL Tryd.underlying9 rfl rfl (by first | omega | (rw [hrs]; omega))) (by first | rfl | (congr 2; done) | (congr 2 <;> omega))) rfl ?_; clear hA a; intro a hA
 refine D.valF hA rfl (fun _ => R.assign rfl) rfl ?_; clear hA a; intro a hA
 refine D.done ?_
 replace hA : St 65 [(0, _), (4, _)] a := hA.sub ((.cons rfl (.cons rfl .nil)))
 refine Ends.seq (Ends.region ?_)
 refine S.val hA (R.move rfl) rfl ?_; clear hA a; intro a hA
 refine S.val hA (R.lenStr Tryd.underlying9 rfl rfl) rfl ?_; clear hA a; intro a hA
 refine S.val hA (R.assign rfl) rfl ?_; clear hA a; intro a hA
 refine S.done ?_
 refine Ends.seq (Ends.seq (Ends.region ?_))
 refine S.val hA (R.move rfl) rfl ?_; clear hA a; intro a hA
 refine S.rangeS hA hM Tryd.underlying9 rfl rfl ?_; clear hA hM a; intro b1 w1 hb2 hM a hA
 replace hM : Mem _ _ [itC b1 ((s.extract p s.size)) 0, pt rb #[.string s, .int .i64 ((p : Int))] 51] _ := hM
 refine S.done ?_
 refine Ends.block ?_
 refine Ends.loop (σ := Nat) (fun j (a : Act) (wv : World) => St 65 [(0, .pointer (some ⟨rb, 0, none⟩)), (4, .string ((s.extract p s.size))), (5, .int .i64 (((s.extract p s.size).size : Int))), (20, .pointer (some ⟨b1, 0, none⟩))] a ∧ Mem w (feet [pt rb #[.string s, .int .i64 ((p : Int))] 51]) [itC b1 ((s.extract p s.size)) j, pt rb #[.string s, .int .i64 ((p : Int))] 51] wv ∧ (p + j ≤ s.size) ∧ (∀ i, i < j → isTb s (p + i) = true)) (fun j => s.size - (p + j)) 0 ⟨hA.sub ((.cons rfl (.cons rfl (.cons rfl (.cons rfl .nil))))), hM, (by omega), (fun i hi => absurd hi (Nat.not_lt_zero i))⟩ ?_
 clear hA hM a
 rintro j a w2 ⟨hA, hM, hj, hd⟩ hNext
 refine Ends.seq (Ends.region ?_)
 by_cases hp3 : j < ((s.extract p s.size)).size
 ·
  refine S.nextT (k := 0) hA hM rfl rfl hp3 rfl ?_; clear hA hM a; intro w3 hM a hA
  replace hM : Mem _ _ [itC b1 ((s.extract p s.size)) ((j + (Utf8.decode ((s.extract p s.size)) j).2)), pt rb #[.string s, .int .i64 ((p : Int))] 51] _ := hM
  refine S.val hA (R.extract (v := .bool true) rfl rfl) rfl ?_; clear hA a; intro a hA
  refine S.done ?_
  refine Ends.seq ?_
  refine Ends.condT hA rfl ?_
  refine Ends.skip (Ends.block (Ends.seq (Ends.region ?_)))
  refine S.val hA (R.extract (v := .int .i64 ((j : Int))) rfl rfl) rfl ?_; clear hA a; intro a hA
  refine S.val hA (R.extract (v := .int .i32 (((Utf8.decode ((s.extract p s.size)) j).1 : Int))) rfl rfl) rfl ?_; clear hA a; intro a hA
  refine S.val hA (R.assign rfl) rfl ?_; clear hA a; intro a hA
  refine S.val hA (R.assign rfl) rfl ?_; clear hA a; intro a hA
  refine S.done ?_
  replace hA : St 65 [(0, _), (4, _), (5, _), (6, _), (7, _), (20, _)] a := hA.sub ((.cons rfl (.cons rfl (.cons rfl (.cons rfl (.cons rfl (.cons rfl .nil)))))))
  refine Ends.seq (Ends.region ?_)
  refine S.val hA (R.move rfl) rfl ?_; clear hA a; intro a hA
  refine S.call hA (R.callF Tryd.func27 rfl rfl rfl) rfl (letter30 (((Utf8.decode ((s.extract p s.size)) j).1 : Int)) _) ?_; clear hA a
  rintro e w4 ⟨rfl, hb⟩
  replace hM := hM.callB hb; clear hb
  refine ⟨.bool (decide (isT (((Utf8.decode ((s.extract p s.size)) j).1 : Int)))), rfl, fun a hA => ?_⟩
  refine S.val hA (R.notD rfl) rfl ?_; clear hA a; intro a hA
  refine S.done ?_
  refine Ends.ite hA rfl (fun hc4 => ?_) (fun hc4 => ?_)
  ·
   have hlt9 : p + j < s.size := by have h9 := hp3; rw [hrs] at h9; omega
   have hno9 : ¬ isT (byt s (p + j)) := fun h8 => hc4 ((dec_let hp3).1.2 (by rw [byt_ext (by omega) (Nat.le_refl _)]; exact h8))
   have hy : cLt s p = j := cLt_uniq hd (decide_eq_false fun h8 => hno9 h8.2)
   refine Ends.seq (Ends.region ?_)
   refine S.val hA (R.move rfl) rfl ?_; clear hA a; intro a hA
   refine S.val hA (R.assign rfl) rfl ?_; clear hA a; intro a hA
   refine S.done ?_
   replace hA : St 65 [(0, _), (4, _), (5, _), (20, _)] a := hA.sub ((.cons rfl (.cons rfl (.cons rfl (.cons rfl .nil)))))
   refine Ends.exit rfl ?_
   refine Ends.seq (Ends.seq ?_)
   replace hM := hM.front (k := 1) rfl
   replace hM := hM.firstN 1
   replace hM : Mem _ _ [pt rb #[.string s, .int .i64 ((p : Int))] 51] _ := hM
   refine Ends.region ?_
   refine S.val hA (R.move rfl) rfl ?_; clear hA a; intro a hA
   refine S.val hA (R.gtr rfl rfl) rfl ?_; clear hA a; intro a hA
   refine S.done ?_
   refine Ends.ite hA rfl (fun hc5 => ?_) (fun hc5 => ?_)
   ·
    have hT : cTr s p = (p + 1048576, 5) := if_pos (by rw [hy]; omega)
    refine Ends.seq (Ends.region ?_)
    refine S.val hA (R.move rfl) rfl ?_; clear hA a; intro a hA
    refine S.val hA (R.nilCheck rfl) rfl ?_; clear hA a; intro a hA
    refine S.val hA (R.fieldAddr (q := 1) fi51_1 rfl rfl rfl) rfl ?_; clear hA a; intro a hA
    refine S.val hA (R.load sz3 rfl (hM.cell (k := 0) rfl rfl)) rfl ?_; clear hA a; intro a hA
    refine S.val hA (R.addI rfl rfl (r := ((p : Int)) + 1048576) rfl (by first | omega | (rw [hrs]; omega))) rfl ?_; clear hA a; intro a hA
    refine S.val hA (R.nilCheck rfl) rfl ?_; clear hA a; intro a hA
    refine S.val hA (R.fieldAddr (q := 1) fi51_1 rfl rfl rfl) rfl ?_; clear hA a; intro a hA
    refine S.store (k := 0) hA hM sz3 rfl rfl rfl rfl rfl ?_; clear hM
    intro w5 hM
    replace hM : Mem _ _ [pt rb #[.string s, .int .i64 (((p : Int)) + 1048576)] 51] _ := hM
    refine S.done ?_
    replace hA : St 65 [(0, _), (4, _), (5, _)] a := hA.sub ((.cons rfl (.cons rfl (.cons rfl .nil))))
    refine Ends.seq (Ends.region ?_)
    refine S.val hA (R.assign rfl) rfl ?_; clear hA a; intro a hA
    refine S.val hA (R.assign rfl) rfl ?_; clear hA a; intro a hA
    refine S.done ?_
    refine Ends.ret2 Tryd.func23 Tryd.results23 hA rfl rfl ?_
    replace hM := hM.firstN 1
    replace hM : Mem _ _ [pt rb #[.string s, .int .i64 (((p : Int)) + 1048576)] 51] _ := hM
    replace hM := hM.firstN 1
    replace hM : Mem _ _ [pt rb #[.string s, .int .i64 (((p : Int)) + 1048576)] 51] _ := hM
    rw [show (p : Int) + 1048576 = ((p + 1048576 : Nat) : Int) by omega] at hM
    rw [hT]
    exact ⟨_, rfl, fun h9 => absurd (show (5 : Int) = 0 from h9) (by decide), hM⟩
   ·
    have hy1 : ¬ 1048576 < cLt s p := by rw [hy]; omega
    refine Ends.skip (Ends.seq (Ends.region ?_))
    refine S.val hA (R.move rfl) rfl ?_; clear hA a; intro a hA
    refine S.val hA (R.nilCheck rfl) rfl ?_; clear hA a; intro a hA
    refine S.val hA (R.fieldAddr (q := 1) fi51_1 rfl rfl rfl) rfl ?_; clear hA a; intro a hA
    refine S.val hA (R.load sz3 rfl (hM.cell (k := 0) rfl rfl)) rfl ?_; clear hA a; intro a hA
    refine S.val hA (R.move rfl) rfl ?_; clear hA a; intro a hA
    refine S.val hA (R.addI rfl rfl (r := ((p + j : Nat) : Int)) (by first | omega | (rw [hrs]; omega)) (by first | omega | (rw [hrs]; omega))) rfl ?_; clear hA a; intro a hA
    refine S.val hA (R.nilCheck rfl) rfl ?_; clear hA a; intro a hA
    refine S.val hA (R.fieldAddr (q := 1) fi51_1 rfl rfl rfl) rfl ?_; clear hA a; intro a hA
    refine S.store (k := 0) hA hM sz3 rfl rfl rfl rfl rfl ?_; clear hM
    intro w6 hM
    replace hM : Mem _ _ [pt rb #[.string s, .int .i64 (((p + j : Nat) : Int))] 51] _ := hM
    refine S.done ?_
    replace hA : St 65 [(0, _), (4, _), (5, _)] a := hA.sub ((.cons rfl (.cons rfl (.cons rfl .nil))))
    refine Ends.seq (Ends.seq ?_)
    refine Ends.cut (fun (a : Act) (wv : World) => St 65 [(0, .pointer (some ⟨rb, 0, none⟩)), (4, .string ((s.extract p s.size))), (5, .int .i64 ((j : Int))), (59, .bool (decide ((((j : Int)) = 0 ∧ (((p + j : Nat) : Int)) < ((s.size : Int))))))] a ∧ Mem w (feet [pt rb #[.string s, .int .i64 ((p : Int))] 51]) [pt rb #[.string s, .int .i64 (((p + j : Nat) : Int))] 51] wv) ?_ (fun k2 hJ => ?_)
    ·
     clear hA hM a; rintro a w7 ⟨hA, hM⟩
     refine Ends.ite hA rfl (fun hc6 => ?_) (fun hc6 => ?_)
     ·
      have hT : cTr s p = (p, 2) := by unfold cTr; rw [if_neg hy1, if_pos ⟨by rw [hy]; omega, by omega⟩]
      refine Ends.seq (Ends.region ?_)
      refine S.val hA (R.assign rfl) rfl ?_; clear hA a; intro a hA
      refine S.val hA (R.assign rfl) rfl ?_; clear hA a; intro a hA
      refine S.done ?_
      refine Ends.ret2 Tryd.func23 Tryd.results23 hA rfl rfl ?_
      replace hM := hM.firstN 1
      replace hM : Mem _ _ [pt rb #[.string s, .int .i64 (((p + j : Nat) : Int))] 51] _ := hM
      replace hM := hM.firstN 1
      replace hM : Mem _ _ [pt rb #[.string s, .int .i64 (((p + j : Nat) : Int))] 51] _ := hM
      rw [show ((p + j : Nat) : Int) = (p : Int) by omega] at hM
      rw [hT]
      exact ⟨_, rfl, fun h9 => absurd (show (2 : Int) = 0 from h9) (by decide), hM⟩
     ·
      have hy2 : ¬ (cLt s p = 0 ∧ p < s.size) := by rw [hy]; intro h9; have h8 := hc6; omega
      refine Ends.skip (Ends.seq ?_)
      refine Ends.drawn (fun _ => True) (.cons (0, true) (.cons (1, true) (.cons (2, true) (.cons (3, true) (.cons (4, false) (.cons (5, true) (.cons (6, true) .nil))))))) 7 mixed (by kernel_rfl) (by kernel_rfl) (by kernel_rfl) trivial ?_
      replace hM := hM.drew
      refine D.valF hA rfl (fun _ => R.move rfl) rfl ?_; clear hA a; intro a hA
      refine D.valF hA rfl (fun _ => R.move rfl) rfl ?_; clear hA a; intro a hA
      refine D.valF hA rfl (fun _ => R.to (v := .string ((((s.extract p s.size)).extract 0 j))) (R.sliceSH Tryd.underlying9 rfl rfl (by first | omega | (rw [hrs]; omega))) (by first | rfl | (congr 2; done) | (congr 2 <;> omega))) rfl ?_; clear hA a; intro a hA
      refine D.valF hA rfl (fun _ => R.move rfl) rfl ?_; clear hA a; intro a hA
      refine D.call hA rfl (R.callF Tryd.func32 rfl rfl rfl) rfl (signs30 s rb (p + j) (by omega) hs ⟨#[10]⟩ [10] (by decide) (by decide) (by decide) _ (hM.hereN 1)) ?_; clear hA a
      rintro e w8 ⟨rfl, hn⟩
      replace hM : Mem _ _ [pt rb #[.string s, .int .i64 ((((sgW s [10] (p + j)).1 : Nat) : Int))] 51] _ := hM.callL 1 hn; clear hn
      refine ⟨.int .i64 ((sgW s [10] (p + j)).2), rfl, trivial, fun a hA => ?_⟩
      refine D.valF hA rfl (fun _ => R.assign rfl) rfl ?_; clear hA a; intro a hA
      refine D.valF hA rfl (fun _ => R.assign rfl) rfl ?_; clear hA a; intro a hA
      refine D.done ?_
      replace hA : St 65 [(2, _), (3, _)] a := hA.sub ((.cons rfl (.cons rfl .nil)))
      refine Ends.ret2 Tryd.func23 Tryd.results23 hA rfl rfl ?_
      replace hM := hM.firstN 1
      replace hM : Mem _ _ [pt rb #[.string s, .int .i64 ((((sgW s [10] (p + j)).1 : Nat) : Int))] 51] _ := hM
      have hT : cTr s p = sgW s [10] (p + j) := by
       unfold cTr
       rw [if_neg hy1, if_neg hy2, hy]
       split
       · rename_i e; rw [sg1_no e]
       · rename_i e; rw [sg1_ok (Decidable.not_not.1 e)]
      rw [hT]
      have hex : (s.extract p s.size).extract 0 j = s.extract p (p + j) := ba_ext (by rw [size_ext (by omega), size_ext (by omega)]; omega) fun i hi => by
       rw [size_ext (by omega)] at hi
       rw [byt_ext (by omega) (by omega), byt_ext (by omega) (Nat.le_refl _), byt_ext (x := p) (y := p + j) (by omega) (by omega), Nat.zero_add]
      exact ⟨_, rfl, fun _ => by rw [hy]; exact hex, hM⟩
    ·
     refine Ends.drawn (Mem w (feet [pt rb #[.string s, .int .i64 ((p : Int))] 51]) [pt rb #[.string s, .int .i64 (((p + j : Nat) : Int))] 51]) (.cons (0, true) (.cons (1, true) (.cons (2, true) (.cons (3, true) (.cons (4, true) (.cons (5, true) (.cons (6, true) (.cons (7, true) (.cons (8, true) (.cons (9, true) (.cons (10, true) (.cons (11, true) (.cons (12, true) (.cons (13, true) .nil)))))))))))))) 14 mixed (by kernel_rfl) (by kernel_rfl) (by kernel_rfl) hM.drew ?_
     replace hM := hM.drew
     refine D.valF hA rfl (fun _ => R.move rfl) rfl ?_; clear hA a; intro a hA
     refine D.valF hA rfl (fun _ => R.eql rfl rfl) rfl ?_; clear hA a; intro a hA
     refine D.valF hA rfl (fun _ => R.move rfl) rfl ?_; clear hA a; intro a hA
     refine hA.split (d := 48) rfl ?_ ?_
     ·
      clear hA; intro hg7 hA
      refine D.valgF (dj := 48) hA rfl (by kernel_rfl) rfl (fun _ => R.move rfl) rfl ?_; clear hA a; intro a hA
      refine D.valgF (dj := 48) hA rfl (by kernel_rfl) rfl (fun _ => R.nilCheck rfl) rfl ?_; clear hA a; intro a hA
      refine D.valgF (dj := 48) hA rfl (by kernel_rfl) rfl (fun _ => R.fieldAddr (q := 1) fi51_1 rfl rfl rfl) rfl ?_; clear hA a; intro a hA
      refine D.valg (dj := 48) hA rfl (by kernel_rfl) (by kernel_rfl) rfl (fun _ hM => R.load sz3 rfl (hM.cell (k := 0) rfl rfl)) rfl ?_; clear hA a; intro a hA
      refine D.valgF (dj := 48) hA rfl (by kernel_rfl) rfl (fun _ => R.move rfl) rfl ?_; clear hA a; intro a hA
      refine D.valgF (dj := 48) hA rfl (by kernel_rfl) rfl (fun _ => R.nilCheck rfl) rfl ?_; clear hA a; intro a hA
      refine D.valgF (dj := 48) hA rfl (by kernel_rfl) rfl (fun _ => R.fieldAddr (q := 0) fi51_0 rfl rfl rfl) rfl ?_; clear hA a; intro a hA
      refine D.valg (dj := 48) hA rfl (by kernel_rfl) (by kernel_rfl) rfl (fun _ hM => R.load sz9 rfl (hM.cell (k := 0) rfl rfl)) rfl ?_; clear hA a; intro a hA
      refine D.valgF (dj := 48) hA rfl (by kernel_rfl) rfl (fun _ => R.lenStr Tryd.underlying9 rfl rfl) rfl ?_; clear hA a; intro a hA
      refine D.valgF (dj := 48) hA rfl (by kernel_rfl) rfl (fun _ => R.lss rfl rfl) rfl ?_; clear hA a; intro a hA
      refine D.valF hA rfl (fun _ => R.pickT rfl rfl) rfl ?_; clear hA a; intro a hA
      refine D.done ?_
      replace hA : St 65 [(0, _), (4, _), (5, _), (59, _)] a := hA.sub ((.cons rfl (.cons rfl (.cons rfl (.cons rfl .nil)))))
      exact hJ _ _ ⟨hA.sub (.cons rfl (.cons rfl (.cons rfl (.cons (by first | rfl | exact congrArg (fun b => some (Value.bool b)) (by first | exact decide_eq_decide.2 (by omega) | exact or_bool (by omega) | exact and_bool (by omega) | (simp; done) | (simp [hg7]; done) | (have h80 := hg7; (try simp at h80); simp [h80]; done) | exact (decide_eq_false (fun h9 => hg7 h9.1)).symm)) .nil)))), hM⟩
     ·
      clear hA; intro hg7 hA
      refine D.no (dj := 48) hA rfl (by kernel_rfl) rfl rfl rfl ?_; clear hA a; intro a hA
      refine D.no (dj := 48) hA rfl (by kernel_rfl) rfl rfl rfl ?_; clear hA a; intro a hA
      refine D.no (dj := 48) hA rfl (by kernel_rfl) rfl rfl rfl ?_; clear hA a; intro a hA
      refine D.no (dj := 48) hA rfl (by kernel_rfl) rfl rfl rfl ?_; clear hA a; intro a hA
      refine D.no (dj := 48) hA rfl (by kernel_rfl) rfl rfl rfl ?_; clear hA a; intro a hA
      refine D.no (dj := 48) hA rfl (by kernel_rfl) rfl rfl rfl ?_; clear hA a; intro a hA
      refine D.no (dj := 48) hA rfl (by kernel_rfl) rfl rfl rfl ?_; clear hA a; intro a hA
      refine D.no (dj := 48) hA rfl (by kernel_rfl) rfl rfl rfl ?_; clear hA a; intro a hA
      refine D.no (dj := 48) hA rfl (by kernel_rfl) rfl rfl rfl ?_; clear hA a; intro a hA
      refine D.no (dj := 48) hA rfl (by kernel_rfl) rfl rfl rfl ?_; clear hA a; intro a hA
      refine D.valF hA rfl (fun _ => R.pickF rfl rfl) rfl ?_; clear hA a; intro a hA
      refine D.done ?_
      replace hA : St 65 [(0, _), (4, _), (5, _), (59, _)] a := hA.sub ((.cons rfl (.cons rfl (.cons rfl (.cons rfl .nil)))))
      exact hJ _ _ ⟨hA.sub (.cons rfl (.cons rfl (.cons rfl (.cons (by first | rfl | exact congrArg (fun b => some (Value.bool b)) (by first | exact decide_eq_decide.2 (by omega) | exact or_bool (by omega) | exact and_bool (by omega) | (simp; done) | (simp [hg7]; done) | (have h80 := hg7; (try simp at h80); simp [h80]; done) | exact (decide_eq_false (fun h9 => hg7 h9.1)).symm)) .nil)))), hM⟩
  ·
   refine Ends.skip (Ends.inBlock ?_)
   have hlt9 : p + j < s.size := by have h9 := hp3; rw [hrs] at h9; omega
   have hle9 : isT (byt (s.extract p s.size) j) := (dec_let hp3).1.1 (Decidable.not_not.1 hc4)
   rw [(dec_let hp3).2 hle9] at hM
   rw [byt_ext (by omega) (Nat.le_refl _)] at hle9
   exact hNext ((j + 1)) _ _ ((by show s.size - (p + (j + 1)) < s.size - (p + j); omega)) ⟨hA.sub ((.cons rfl (.cons rfl (.cons rfl (.cons rfl .nil))))), hM, (by omega), (fun i hi => by rcases Nat.lt_or_ge i j with q | q; exact hd i q; have e : i = j := (by omega); rw [e]; exact decide_eq_true ⟨hlt9, hle9⟩)⟩
 ·
  refine S.val hA (R.nextF (k := 0) hM rfl rfl hp3) rfl ?_; clear hA a; intro a hA
  refine S.val hA (R.extract (v := .bool false) rfl rfl) rfl ?_; clear hA a; intro a hA
  refine S.done ?_
  refine Ends.seq ?_
  refine Ends.condF hA rfl ?_
  refine Ends.exit rfl ?_
  refine Ends.seq (Ends.seq ?_)
  have hje : p + j = s.size := by have h9 := hp3; rw [hrs] at h9; omega
  have hy : cLt s p = j := cLt_uniq hd (decide_eq_false fun h8 => absurd h8.1 (by omega))
  rw [show ((s.extract p s.size).size : Int) = (j : Int) by omega] at hA
  replace hM := hM.front (k := 1) rfl
  replace hM := hM.firstN 1
  replace hM : Mem _ _ [pt rb #[.string s, .int .i64 ((p : Int))] 51] _ := hM
  refine Ends.region ?_
  refine S.val hA (R.move rfl) rfl ?_; clear hA a; intro a hA
  refine S.val hA (R.gtr rfl rfl) rfl ?_; clear hA a; intro a hA
  refine S.done ?_
  replace hA : St 65 [(0, _), (4, _), (5, _), (30, _)] a := hA.sub ((.cons rfl (.cons rfl (.cons rfl (.cons rfl .nil)))))
  refine Ends.ite hA rfl (fun hc8 => ?_) (fun hc8 => ?_)
  ·
   have hT : cTr s p = (p + 1048576, 5) := if_pos (by rw [hy]; omega)
   refine Ends.seq (Ends.region ?_)
   refine S.val hA (R.move rfl) rfl ?_; clear hA a; intro a hA
   refine S.val hA (R.nilCheck rfl) rfl ?_; clear hA a; intro a hA
   refine S.val hA (R.fieldAddr (q := 1) fi51_1 rfl rfl rfl) rfl ?_; clear hA a; intro a hA
   refine S.val hA (R.load sz3 rfl (hM.cell (k := 0) rfl rfl)) rfl ?_; clear hA a; intro a hA
   refine S.val hA (R.addI rfl rfl (r := ((p : Int)) + 1048576) rfl (by first | omega | (rw [hrs]; omega))) rfl ?_; clear hA a; intro a hA
   refine S.val hA (R.nilCheck rfl) rfl ?_; clear hA a; intro a hA
   refine S.val hA (R.fieldAddr (q := 1) fi51_1 rfl rfl rfl) rfl ?_; clear hA a; intro a hA
   refine S.store (k := 0) hA hM sz3 rfl rfl rfl rfl rfl ?_; clear hM
   intro w9 hM
   replace hM : Mem _ _ [pt rb #[.string s, .int .i64 (((p : Int)) + 1048576)] 51] _ := hM
   refine S.done ?_
   replace hA : St 65 [(0, _), (4, _), (5, _)] a := hA.sub ((.cons rfl (.cons rfl (.cons rfl .nil))))
   refine Ends.seq (Ends.region ?_)
   refine S.val hA (R.assign rfl) rfl ?_; clear hA a; intro a hA
   refine S.val hA (R.assign rfl) rfl ?_; clear hA a; intro a hA
   refine S.done ?_
   refine Ends.ret2 Tryd.func23 Tryd.results23 hA rfl rfl ?_
   replace hM := hM.firstN 1
   replace hM : Mem _ _ [pt rb #[.string s, .int .i64 (((p : Int)) + 1048576)] 51] _ := hM
   replace hM := hM.firstN 1
   replace hM : Mem _ _ [pt rb #[.string s, .int .i64 (((p : Int)) + 1048576)] 51] _ := hM
   rw [show (p : Int) + 1048576 = ((p + 1048576 : Nat) : Int) by omega] at hM
   rw [hT]
   exact ⟨_, rfl, fun h9 => absurd (show (5 : Int) = 0 from h9) (by decide), hM⟩
  ·
   have hy1 : ¬ 1048576 < cLt s p := by rw [hy]; omega
   refine Ends.skip (Ends.seq (Ends.region ?_))
   refine S.val hA (R.move rfl) rfl ?_; clear hA a; intro a hA
   refine S.val hA (R.nilCheck rfl) rfl ?_; clear hA a; intro a hA
   refine S.val hA (R.fieldAddr (q := 1) fi51_1 rfl rfl rfl) rfl ?_; clear hA a; intro a hA
   refine S.val hA (R.load sz3 rfl (hM.cell (k := 0) rfl rfl)) rfl ?_; clear hA a; intro a hA
   refine S.val hA (R.move rfl) rfl ?_; clear hA a; intro a hA
   refine S.val hA (R.addI rfl rfl (r := ((p + j : Nat) : Int)) (by first | omega | (rw [hrs]; omega)) (by first | omega | (rw [hrs]; omega))) rfl ?_; clear hA a; intro a hA
   refine S.val hA (R.nilCheck rfl) rfl ?_; clear hA a; intro a hA
   refine S.val hA (R.fieldAddr (q := 1) fi51_1 rfl rfl rfl) rfl ?_; clear hA a; intro a hA
   refine S.store (k := 0) hA hM sz3 rfl rfl rfl rfl rfl ?_; clear hM
   intro w10 hM
   replace hM : Mem _ _ [pt rb #[.string s, .int .i64 (((p + j : Nat) : Int))] 51] _ := hM
   refine S.done ?_
   replace hA : St 65 [(0, _), (4, _), (5, _)] a := hA.sub ((.cons rfl (.cons rfl (.cons rfl .nil))))
   refine Ends.seq (Ends.seq ?_)
   refine Ends.cut (fun (a : Act) (wv : World) => St 65 [(0, .pointer (some ⟨rb, 0, none⟩)), (4, .string ((s.extract p s.size))), (5, .int .i64 ((j : Int))), (59, .bool (decide ((((j : Int)) = 0 ∧ (((p + j : Nat) : Int)) < ((s.size : Int))))))] a ∧ Mem w (feet [pt rb #[.string s, .int .i64 ((p : Int))] 51]) [pt rb #[.string s, .int .i64 (((p + j : Nat) : Int))] 51] wv) ?_ (fun k2 hJ => ?_)
   ·
    clear hA hM a; rintro a w11 ⟨hA, hM⟩
    refine Ends.ite hA rfl (fun hc9 => ?_) (fun hc9 => ?_)
    ·
     have hT : cTr s p = (p, 2) := by unfold cTr; rw [if_neg hy1, if_pos ⟨by rw [hy]; omega, by omega⟩]
     refine Ends.seq (Ends.region ?_)
     refine S.val hA (R.assign rfl) rfl ?_; clear hA a; intro a hA
     refine S.val hA (R.assign rfl) rfl ?_; clear hA a; intro a hA
     refine S.done ?_
     refine Ends.ret2 Tryd.func23 Tryd.results23 hA rfl rfl ?_
     replace hM := hM.firstN 1
     replace hM : Mem _ _ [pt rb #[.string s, .int .i64 (((p + j : Nat) : Int))] 51] _ := hM
     replace hM := hM.firstN 1
     replace hM : Mem _ _ [pt rb #[.string s, .int .i64 (((p + j : Nat) : Int))] 51] _ := hM
     rw [show ((p + j : Nat) : Int) = (p : Int) by omega] at hM
     rw [hT]
     exact ⟨_, rfl, fun h9 => absurd (show (2 : Int) = 0 from h9) (by decide), hM⟩
    ·
     have hy2 : ¬ (cLt s p = 0 ∧ p < s.size) := by rw [hy]; intro h9; have h8 := hc9; omega
     refine Ends.skip (Ends.seq ?_)
     refine Ends.drawn (fun _ => True) (.cons (0, true) (.cons (1, true) (.cons (2, true) (.cons (3, true) (.cons (4, false) (.cons (5, true) (.cons (6, true) .nil))))))) 7 mixed (by kernel_rfl) (by kernel_rfl) (by kernel_rfl) trivial ?_
     replace hM := hM.drew
     refine D.valF hA rfl (fun _ => R.move rfl) rfl ?_; clear hA a; intro a hA
     refine D.valF hA rfl (fun _ => R.move rfl) rfl ?_; clear hA a; intro a hA
     refine D.valF hA rfl (fun _ => R.to (v := .string ((((s.extract p s.size)).extract 0 j))) (R.sliceSH Tryd.underlying9 rfl rfl (by first | omega | (rw [hrs]; omega))) (by first | rfl | (congr 2; done) | (congr 2 <;> omega))) rfl ?_; clear hA a; intro a hA
     refine D.valF hA rfl (fun _ => R.move rfl) rfl ?_; clear hA a; intro a hA
     refine D.call hA rfl (R.callF Tryd.func32 rfl rfl rfl) rfl (signs30 s rb (p + j) (by omega) hs ⟨#[10]⟩ [10] (by decide) (by decide) (by decide) _ (hM.hereN 1)) ?_; clear hA a
     rintro e w12 ⟨rfl, hn⟩
     replace hM : Mem _ _ [pt rb #[.string s, .int .i64 ((((sgW s [10] (p + j)).1 : Nat) : Int))] 51] _ := hM.callL 1 hn; clear hn
     refine ⟨.int .i64 ((sgW s [10] (p + j)).2), rfl, trivial, fun a hA => ?_⟩
     refine D.valF hA rfl (fun _ => R.assign rfl) rfl ?_; clear hA a; intro a hA
     refine D.valF hA rfl (fun _ => R.assign rfl) rfl ?_; clear hA a; intro a hA
     refine D.done ?_
     replace hA : St 65 [(2, _), (3, _)] a := hA.sub ((.cons rfl (.cons rfl .nil)))
     refine Ends.ret2 Tryd.func23 Tryd.results23 hA rfl rfl ?_
     replace hM := hM.firstN 1
     replace hM : Mem _ _ [pt rb #[.string s, .int .i64 ((((sgW s [10] (p + j)).1 : Nat) : Int))] 51] _ := hM
     have hT : cTr s p = sgW s [10] (p + j) := by
      unfold cTr
      rw [if_neg hy1, if_neg hy2, hy]
      split
      · rename_i e; rw [sg1_no e]
      · rename_i e; rw [sg1_ok (Decidable.not_not.1 e)]
     rw [hT]
     have hex : (s.extract p s.size).extract 0 j = s.extract p (p + j) := ba_ext (by rw [size_ext (by omega), size_ext (by omega)]; omega) fun i hi => by
      rw [size_ext (by omega)] at hi
      rw [byt_ext (by omega) (by omega), byt_ext (by omega) (Nat.le_refl _), byt_ext (x := p) (y := p + j) (by omega) (by omega), Nat.zero_add]
     exact ⟨_, rfl, fun _ => by rw [hy]; exact hex, hM⟩
   ·
    refine Ends.drawn (Mem w (feet [pt rb #[.string s, .int .i64 ((p : Int))] 51]) [pt rb #[.string s, .int .i64 (((p + j : Nat) : Int))] 51]) (.cons (0, true) (.cons (1, true) (.cons (2, true) (.cons (3, true) (.cons (4, true) (.cons (5, true) (.cons (6, true) (.cons (7, true) (.cons (8, true) (.cons (9, true) (.cons (10, true) (.cons (11, true) (.cons (12, true) (.cons (13, true) .nil)))))))))))))) 14 mixed (by kernel_rfl) (by kernel_rfl) (by kernel_rfl) hM.drew ?_
    replace hM := hM.drew
    refine D.valF hA rfl (fun _ => R.move rfl) rfl ?_; clear hA a; intro a hA
    refine D.valF hA rfl (fun _ => R.eql rfl rfl) rfl ?_; clear hA a; intro a hA
    refine D.valF hA rfl (fun _ => R.move rfl) rfl ?_; clear hA a; intro a hA
    refine hA.split (d := 48) rfl ?_ ?_
    ·
     clear hA; intro hg10 hA
     refine D.valgF (dj := 48) hA rfl (by kernel_rfl) rfl (fun _ => R.move rfl) rfl ?_; clear hA a; intro a hA
     refine D.valgF (dj := 48) hA rfl (by kernel_rfl) rfl (fun _ => R.nilCheck rfl) rfl ?_; clear hA a; intro a hA
     refine D.valgF (dj := 48) hA rfl (by kernel_rfl) rfl (fun _ => R.fieldAddr (q := 1) fi51_1 rfl rfl rfl) rfl ?_; clear hA a; intro a hA
     refine D.valg (dj := 48) hA rfl (by kernel_rfl) (by kernel_rfl) rfl (fun _ hM => R.load sz3 rfl (hM.cell (k := 0) rfl rfl)) rfl ?_; clear hA a; intro a hA
     refine D.valgF (dj := 48) hA rfl (by kernel_rfl) rfl (fun _ => R.move rfl) rfl ?_; clear hA a; intro a hA
     refine D.valgF (dj := 48) hA rfl (by kernel_rfl) rfl (fun _ => R.nilCheck rfl) rfl ?_; clear hA a; intro a hA
     refine D.valgF (dj := 48) hA rfl (by kernel_rfl) rfl (fun _ => R.fieldAddr (q := 0) fi51_0 rfl rfl rfl) rfl ?_; clear hA a; intro a hA
     refine D.valg (dj := 48) hA rfl (by kernel_rfl) (by kernel_rfl) rfl (fun _ hM => R.load sz9 rfl (hM.cell (k := 0) rfl rfl)) rfl ?_; clear hA a; intro a hA
     refine D.valgF (dj := 48) hA rfl (by kernel_rfl) rfl (fun _ => R.lenStr Tryd.underlying9 rfl rfl) rfl ?_; clear hA a; intro a hA
     refine D.valgF (dj := 48) hA rfl (by kernel_rfl) rfl (fun _ => R.lss rfl rfl) rfl ?_; clear hA a; intro a hA
     refine D.valF hA rfl (fun _ => R.pickT rfl rfl) rfl ?_; clear hA a; intro a hA
     refine D.done ?_
     replace hA : St 65 [(0, _), (4, _), (5, _), (59, _)] a := hA.sub ((.cons rfl (.cons rfl (.cons rfl (.cons rfl .nil)))))
     exact hJ _ _ ⟨hA.sub (.cons rfl (.cons rfl (.cons rfl (.cons (by first | rfl | exact congrArg (fun b => some (Value.bool b)) (by first | exact decide_eq_decide.2 (by omega) | exact or_bool (by omega) | exact and_bool (by omega) | (simp; done) | (simp [hg10]; done) | (have h80 := hg10; (try simp at h80); simp [h80]; done) | exact (decide_eq_false (fun h9 => hg10 h9.1)).symm)) .nil)))), hM⟩
    ·
     clear hA; intro hg10 hA
     refine D.no (dj := 48) hA rfl (by kernel_rfl) rfl rfl rfl ?_; clear hA a; intro a hA
     refine D.no (dj := 48) hA rfl (by kernel_rfl) rfl rfl rfl ?_; clear hA a; intro a hA
     refine D.no (dj := 48) hA rfl (by kernel_rfl) rfl rfl rfl ?_; clear hA a; intro a hA
     refine D.no (dj := 48) hA rfl (by kernel_rfl) rfl rfl rfl ?_; clear hA a; intro a hA
     refine D.no (dj := 48) hA rfl (by kernel_rfl) rfl rfl rfl ?_; clear hA a; intro a hA
     refine D.no (dj := 48) hA rfl (by kernel_rfl) rfl rfl rfl ?_; clear hA a; intro a hA
     refine D.no (dj := 48) hA rfl (by kernel_rfl) rfl rfl rfl ?_; clear hA a; intro a hA
     refine D.no (dj := 48) hA rfl (by kernel_rfl) rfl rfl rfl ?_; clear hA a; intro a hA
     refine D.no (dj := 48) hA rfl (by kernel_rfl) rfl rfl rfl ?_; clear hA a; intro a hA
     refine D.no (dj := 48) hA rfl (by kernel_rfl) rfl rfl rfl ?_; clear hA a; intro a hA
     refine D.valF hA rfl (fun _ => R.pickF rfl rfl) rfl ?_; clear hA a; intro a hA
     refine D.done ?_
     replace hA : St 65 [(0, _), (4, _), (5, _), (59, _)] a := hA.sub ((.cons rfl (.cons rfl (.cons rfl (.cons rfl .nil)))))
     exact hJ _ _ ⟨hA.sub (.cons rfl (.cons rfl (.cons rfl (.cons (by first | rfl | exact congrArg (fun b => some (Value.bool b)) (by first | exact decide_eq_decide.2 (by omega) | exact or_bool (by omega) | exact and_bool (by omega) | (simp; done) | (simp [hg10]; done) | (have h80 := hg10; (try simp at h80); simp [h80]; done) | exact (decide_eq_false (fun h9 => hg10 h9.1)).symm)) .nil)))), hM⟩
theorem cNb_le (s : ByteArray) (n p : Nat) (hp : p ≤ s.size) : ∀ k, (cNb s n p k).2.2 = 0 → (cNb s n p k).2.1 ≤ s.size
  | 0, _ => hp
  | k + 1, h => by
    rw [cNb] at h ⊢
    split at h
    · rename_i e; exact absurd h e
    rename_i e; rw [if_neg e]
    split at h
    · rename_i e; exact absurd h e
    rename_i e2; rw [if_neg e2]
    split at h
    · rename_i e; exact absurd h e
    rename_i e3; rw [if_neg e3]
    exact sgE_lt (Decidable.not_not.1 e3)
theorem cN_le (s : ByteArray) (h1 : (cHd s).2 = 0) (h2 : (cN s).2.2 = 0) : (cN s).2.1 ≤ s.size := cNb_le s _ _ (cHd_le s h1) _ h2
theorem cHd_n {s : ByteArray} (f : (cHd s).2 = 0) : 1 ≤ (cH3 s).1 ∧ (cH3 s).1 ≤ 64 := by
  have hv : 0 ≤ (cH3 s).1 ∧ (cH3 s).1 ≤ 64 := nm_val (by decide)
  refine ⟨?_, hv.2⟩
  unfold cHd at f
  split at f
  · rename_i e; exact absurd f e
  split at f
  · rename_i e; exact absurd f e
  split at f
  · rename_i e; exact absurd f e
  split at f
  · rename_i e; exact absurd f e
  split at f
  · exact absurd (show (1 : Int) = 0 from f) (by decide)
  rename_i e; omega
set_option maxRecDepth 100000 in
set_option maxHeartbeats 400000 in
theorem cread30 (s : ByteArray) (hs : s.size ≤ 4611686018427387904) (w : World) :
  Calls Tryd.prog 14 #[.string s] w fun e w' => ∃ oa oc, e = .returned (.tuple #[.agg #[.int .i64 (rdC s).1.v, .slice oa (rdC s).1.X.length oc, .string (rdC s).1.t], .int .i64 (rdC s).2.1, .int .i64 (rdC s).2.2]) ∧ Mem w nof [own 3 1 (.slice oa (((rdC s).1.X).length) oc) (((rdC s).1.X).length) (((rdC s).1.X).map (Value.int .i64))] w' := by
 have hbs := Below.refl (B := w.heap.size) w
 have hM := Mem.start w
 refine Calls.of_ends (vs := [.string s]) Tryd.func14 rfl Tryd.ntmps14 rfl ?_
 intro a hA
 replace hA : St 70 [(0, _)] a := hA
 refine Ends.seq (Ends.region ?_)
 refine S.alloc hA hM info26 rfl rfl ?_; clear hA hM a; intro b1 w1 hb2 hM a hA
 replace hM : Mem _ _ [pt b1 #[.int .i64 0, .slice none 0 0, .string (⟨#[]⟩)] 26] _ := hM
 refine S.val hA (R.assign rfl) rfl ?_; clear hA a; intro a hA
 refine S.val hA (R.assign rfl) rfl ?_; clear hA a; intro a hA
 refine S.done ?_
 refine Ends.seq (Ends.region ?_)
 refine S.val hA (R.move rfl) rfl ?_; clear hA a; intro a hA
 refine S.val hA (R.build (cells := #[.string s, .int .i64 0]) rfl (by kernel_rfl)) rfl ?_; clear hA a; intro a hA
 refine S.box hA hM rfl rfl ?_; clear hA hM a; intro b3 w2 hb4 hM a hA
 replace hM : Mem _ _ [pt b3 #[.string s, .int .i64 0] 51, pt b1 #[.int .i64 0, .slice none 0 0, .string (⟨#[]⟩)] 26] _ := hM
 refine S.val hA (R.assign rfl) rfl ?_; clear hA a; intro a hA
 refine S.done ?_
 replace hA : St 70 [(0, _), (2, _), (5, _)] a := hA.sub ((.cons rfl (.cons rfl (.cons rfl .nil))))
 refine Ends.seq ?_
 obtain ⟨rb, hrb⟩ : ∃ rb, rb = b3 := ⟨_, rfl⟩
 rw [← hrb] at hM hA
 replace hM : Mem _ _ [pt rb #[.string s, .int .i64 0] 51, pt b1 #[.int .i64 0, .slice none 0 0, .string (⟨#[]⟩)] 26] _ := hM
 refine Ends.region ?_
 refine S.val hA (R.move rfl) rfl ?_; clear hA a; intro a hA
 refine S.call hA (R.callF Tryd.func21 rfl rfl rfl) rfl (head30 s rb hs _ (hM.hereN 1)) ?_; clear hA a
 rintro e w3 ⟨hv, hn9, rfl, hve, hn⟩
 replace hM : Mem _ _ [pt rb #[.string s, .int .i64 ((((cHd s).1 : Nat) : Int))] 51, pt b1 #[.int .i64 0, .slice none 0 0, .string (⟨#[]⟩)] 26] _ := hM.callL 1 hn; clear hn
 refine ⟨.tuple #[.int .i64 hv, .int .i64 hn9, .int .i64 ((cHd s).2)], rfl, fun a hA => ?_⟩
 refine S.val hA (R.move rfl) rfl ?_; clear hA a; intro a hA
 refine S.val hA (R.extract (v := .int .i64 hv) rfl rfl) rfl ?_; clear hA a; intro a hA
 refine S.val hA (R.extract (v := .int .i64 hn9) rfl rfl) rfl ?_; clear hA a; intro a hA
 refine S.val hA (R.extract (v := .int .i64 ((cHd s).2)) rfl rfl) rfl ?_; clear hA a; intro a hA
 refine S.val hA (R.assign rfl) rfl ?_; clear hA a; intro a hA
 refine S.val hA (R.assign rfl) rfl ?_; clear hA a; intro a hA
 refine S.val hA (R.assign rfl) rfl ?_; clear hA a; intro a hA
 refine S.done ?_
 replace hA : St 70 [(0, _), (2, _), (5, _), (6, _), (7, _), (8, _)] a := hA.sub ((.cons rfl (.cons rfl (.cons rfl (.cons rfl (.cons rfl (.cons rfl .nil)))))))
 refine Ends.seq (Ends.seq (Ends.region ?_))
 refine S.val hA (R.move rfl) rfl ?_; clear hA a; intro a hA
 refine S.val hA (R.neq rfl rfl) rfl ?_; clear hA a; intro a hA
 refine S.done ?_
 refine Ends.ite hA rfl (fun hc5 => ?_) (fun hc5 => ?_)
 ·
  have hT : rdC s = (crz, ((cHd s).1 : Int), (cHd s).2) := if_pos hc5
  refine Ends.seq ?_
  refine Ends.drawn (Mem w nof [pt rb #[.string s, .int .i64 ((((cHd s).1 : Nat) : Int))] 51]) (.cons (0, true) (.cons (1, true) (.cons (2, true) (.cons (3, true) (.cons (4, true) (.cons (5, true) (.cons (6, false) (.cons (7, true) (.cons (8, true) .nil))))))))) 9 mixed (by kernel_rfl) (by kernel_rfl) (by kernel_rfl) (hM.drop 1).drew ?_
  replace hM := hM.drew
  refine D.valF hA rfl (fun _ => R.build (cells := #[.int .i64 0, .slice none 0 0, .string (⟨#[]⟩)]) rfl (by kernel_rfl)) rfl ?_; clear hA a; intro a hA
  refine D.valF hA rfl (fun _ => R.move rfl) rfl ?_; clear hA a; intro a hA
  refine D.valF hA rfl (fun _ => R.nilCheck rfl) rfl ?_; clear hA a; intro a hA
  refine D.valF hA rfl (fun _ => R.fieldAddr (q := 1) fi51_1 rfl rfl rfl) rfl ?_; clear hA a; intro a hA
  refine D.val hA rfl (by kernel_rfl) (fun _ hM => R.load sz3 rfl (hM.cell (k := 0) rfl rfl)) rfl ?_; clear hA a; intro a hA
  refine D.valF hA rfl (fun _ => R.move rfl) rfl ?_; clear hA a; intro a hA
  refine D.storeA (k := 1) hA hM rfl sz26 rfl rfl rfl rfl rfl rfl ?_; clear hM
  intro w4 hM; refine ⟨fun _ _ => (hM.drop 1), ?_⟩
  replace hM : Mem _ _ [pt rb #[.string s, .int .i64 ((((cHd s).1 : Nat) : Int))] 51, pt b1 #[.int .i64 0, .slice none 0 0, .string (⟨#[]⟩)] 26] _ := hM
  refine D.valF hA rfl (fun _ => R.assign rfl) rfl ?_; clear hA a; intro a hA
  refine D.valF hA rfl (fun _ => R.assign rfl) rfl ?_; clear hA a; intro a hA
  refine D.done ?_
  replace hA : St 70 [(0, _), (2, _), (3, _), (4, _), (5, _), (6, _), (7, _)] a := hA.sub ((.cons rfl (.cons rfl (.cons rfl (.cons rfl (.cons rfl (.cons rfl (.cons rfl .nil))))))))
  refine Ends.retC3 (k := 1) Tryd.func14 Tryd.results14 hA hM rfl rfl rfl rfl sz26 rfl ?_
  replace hM := hM.nilL.ownNil 3 1
  rw [hT]
  exact ⟨none, 0, rfl, hM⟩
 ·
  have hz1 := Decidable.not_not.1 hc5
  obtain ⟨rfl, rfl⟩ := hve hz1
  have hn3 := cHd_n hz1
  refine Ends.skip (Ends.seq ?_)
  rw [show (cH3 s).1 = (((cH3 s).1.toNat : Nat) : Int) by omega] at hA
  refine Ends.region ?_
  refine S.val hA (R.move rfl) rfl ?_; clear hA a; intro a hA
  refine S.val hA (R.move rfl) rfl ?_; clear hA a; intro a hA
  refine S.call hA (R.callF Tryd.func22 rfl rfl rfl) rfl (numbers30 s rb (cHd s).1 (cHd_le s hz1) hs (cH3 s).1.toNat (by omega) (by omega) _ (hM.hereN 1)) ?_; clear hA a
  rintro e w5 ⟨oa, oc, rfl, hn⟩
  replace hM : Mem _ _ [pt rb #[.string s, .int .i64 ((((cN s).2.1 : Nat) : Int))] 51, own 3 1 (.slice oa (((cN s).1).length) oc) (((cN s).1).length) (((cN s).1).map (Value.int .i64)), pt b1 #[.int .i64 0, .slice none 0 0, .string (⟨#[]⟩)] 26] _ := hM.callL 1 hn; clear hn
  refine ⟨.tuple #[.slice oa ((cN s).1.length) oc, .int .i64 ((cN s).2.2)], rfl, fun a hA => ?_⟩
  refine S.val hA (R.move rfl) rfl ?_; clear hA a; intro a hA
  refine S.val hA (R.extract (v := .slice oa ((cN s).1.length) oc) rfl rfl) rfl ?_; clear hA a; intro a hA
  refine S.val hA (R.extract (v := .int .i64 ((cN s).2.2)) rfl rfl) rfl ?_; clear hA a; intro a hA
  refine S.val hA (R.assign rfl) rfl ?_; clear hA a; intro a hA
  refine S.val hA (R.assign rfl) rfl ?_; clear hA a; intro a hA
  refine S.done ?_
  replace hA : St 70 [(0, _), (2, _), (5, _), (6, _), (8, _), (9, _)] a := hA.sub ((.cons rfl (.cons rfl (.cons rfl (.cons rfl (.cons rfl (.cons rfl .nil)))))))
  refine Ends.seq (Ends.seq (Ends.region ?_))
  refine S.val hA (R.move rfl) rfl ?_; clear hA a; intro a hA
  refine S.val hA (R.neq rfl rfl) rfl ?_; clear hA a; intro a hA
  refine S.done ?_
  refine Ends.ite hA rfl (fun hc6 => ?_) (fun hc6 => ?_)
  ·
   have hT : rdC s = (crz, ((cN s).2.1 : Int), (cN s).2.2) := by unfold rdC; rw [if_neg (not_not_intro hz1), if_pos hc6]
   refine Ends.seq ?_
   refine Ends.drawn (Mem w nof [pt rb #[.string s, .int .i64 ((((cN s).2.1 : Nat) : Int))] 51]) (.cons (0, true) (.cons (1, true) (.cons (2, true) (.cons (3, true) (.cons (4, true) (.cons (5, true) (.cons (6, false) (.cons (7, true) (.cons (8, true) .nil))))))))) 9 mixed (by kernel_rfl) (by kernel_rfl) (by kernel_rfl) ((hM.drop 2).drop 1).drew ?_
   replace hM := hM.drew
   refine D.valF hA rfl (fun _ => R.build (cells := #[.int .i64 0, .slice none 0 0, .string (⟨#[]⟩)]) rfl (by kernel_rfl)) rfl ?_; clear hA a; intro a hA
   refine D.valF hA rfl (fun _ => R.move rfl) rfl ?_; clear hA a; intro a hA
   refine D.valF hA rfl (fun _ => R.nilCheck rfl) rfl ?_; clear hA a; intro a hA
   refine D.valF hA rfl (fun _ => R.fieldAddr (q := 1) fi51_1 rfl rfl rfl) rfl ?_; clear hA a; intro a hA
   refine D.val hA rfl (by kernel_rfl) (fun _ hM => R.load sz3 rfl (hM.cell (k := 0) rfl rfl)) rfl ?_; clear hA a; intro a hA
   refine D.valF hA rfl (fun _ => R.move rfl) rfl ?_; clear hA a; intro a hA
   refine D.storeA (k := 2) hA hM rfl sz26 rfl rfl rfl rfl rfl rfl ?_; clear hM
   intro w6 hM; refine ⟨fun _ _ => ((hM.drop 2).drop 1), ?_⟩
   replace hM : Mem _ _ [pt rb #[.string s, .int .i64 ((((cN s).2.1 : Nat) : Int))] 51, own 3 1 (.slice oa (((cN s).1).length) oc) (((cN s).1).length) (((cN s).1).map (Value.int .i64)), pt b1 #[.int .i64 0, .slice none 0 0, .string (⟨#[]⟩)] 26] _ := hM
   refine D.valF hA rfl (fun _ => R.assign rfl) rfl ?_; clear hA a; intro a hA
   refine D.valF hA rfl (fun _ => R.assign rfl) rfl ?_; clear hA a; intro a hA
   refine D.done ?_
   replace hA : St 70 [(0, _), (2, _), (3, _), (4, _), (5, _), (6, _), (9, _)] a := hA.sub ((.cons rfl (.cons rfl (.cons rfl (.cons rfl (.cons rfl (.cons rfl (.cons rfl .nil))))))))
   refine Ends.retC3 (k := 2) Tryd.func14 Tryd.results14 hA hM rfl rfl rfl rfl sz26 rfl ?_
   replace hM := hM.nilL.ownNil 3 1
   rw [hT]
   exact ⟨none, 0, rfl, hM⟩
  ·
   have hz2 := Decidable.not_not.1 hc6
   refine Ends.skip (Ends.seq (Ends.region ?_))
   refine S.val hA (R.move rfl) rfl ?_; clear hA a; intro a hA
   refine S.call hA (R.callF Tryd.func23 rfl rfl rfl) rfl (tree30 s rb (cN s).2.1 (cN_le s hz1 hz2) hs _ (hM.hereN 1)) ?_; clear hA a
   rintro e w7 ⟨u, rfl, hue, hn⟩
   replace hM : Mem _ _ [pt rb #[.string s, .int .i64 ((((cT s).1 : Nat) : Int))] 51, own 3 1 (.slice oa (((cN s).1).length) oc) (((cN s).1).length) (((cN s).1).map (Value.int .i64)), pt b1 #[.int .i64 0, .slice none 0 0, .string (⟨#[]⟩)] 26] _ := hM.callL 1 hn; clear hn
   refine ⟨.tuple #[.string u, .int .i64 ((cT s).2)], rfl, fun a hA => ?_⟩
   refine S.val hA (R.move rfl) rfl ?_; clear hA a; intro a hA
   refine S.val hA (R.extract (v := .string u) rfl rfl) rfl ?_; clear hA a; intro a hA
   refine S.val hA (R.extract (v := .int .i64 ((cT s).2)) rfl rfl) rfl ?_; clear hA a; intro a hA
   refine S.val hA (R.assign rfl) rfl ?_; clear hA a; intro a hA
   refine S.val hA (R.assign rfl) rfl ?_; clear hA a; intro a hA
   refine S.done ?_
   replace hA : St 70 [(0, _), (2, _), (5, _), (6, _), (8, _), (9, _), (10, _)] a := hA.sub ((.cons rfl (.cons rfl (.cons rfl (.cons rfl (.cons rfl (.cons rfl (.cons rfl .nil))))))))
   refine Ends.seq (Ends.seq ?_)
   refine Ends.cut (fun (a : Act) (wv : World) => St 70 [(2, .pointer (some ⟨b1, 0, none⟩)), (5, .pointer (some ⟨rb, 0, none⟩)), (6, .int .i64 ((cH2 s).1)), (8, .int .i64 ((cT s).2)), (9, .slice oa ((cN s).1.length) oc), (10, .string u), (57, .bool (decide ((((cT s).2) = 0 ∧ ((((cT s).1 : Nat) : Int)) < ((s.size : Int))))))] a ∧ Mem w nof [pt rb #[.string s, .int .i64 ((((cT s).1 : Nat) : Int))] 51, own 3 1 (.slice oa (((cN s).1).length) oc) (((cN s).1).length) (((cN s).1).map (Value.int .i64)), pt b1 #[.int .i64 0, .slice none 0 0, .string (⟨#[]⟩)] 26] wv) ?_ (fun k2 hJ => ?_)
   ·
    clear hA hM a; rintro a w8 ⟨hA, hM⟩
    refine Ends.ite hA rfl (fun hc7 => ?_) (fun hc7 => ?_)
    ·
     have hz3 := hc7.1
     have hT : rdC s = (crz, ((cT s).1 : Int), 7) := by unfold rdC; rw [if_neg (not_not_intro hz1), if_neg (not_not_intro hz2), if_neg (not_not_intro hz3), if_pos (by have h9 := hc7.2; omega)]
     refine Ends.region ?_
     refine S.val hA (R.assign rfl) rfl ?_; clear hA a; intro a hA
     refine S.done ?_
     refine Ends.seq (Ends.seq (Ends.region ?_))
     refine S.val hA (R.move rfl) rfl ?_; clear hA a; intro a hA
     refine S.val hA (R.tt (R.neq rfl rfl) (by first | decide | simp | omega)) rfl ?_; clear hA a; intro a hA
     refine S.done ?_
     refine Ends.condT hA rfl ?_
     refine Ends.seq ?_
     refine Ends.drawn (Mem w nof [pt rb #[.string s, .int .i64 ((((cT s).1 : Nat) : Int))] 51]) (.cons (0, true) (.cons (1, true) (.cons (2, true) (.cons (3, true) (.cons (4, true) (.cons (5, true) (.cons (6, false) (.cons (7, true) (.cons (8, true) .nil))))))))) 9 mixed (by kernel_rfl) (by kernel_rfl) (by kernel_rfl) ((hM.drop 2).drop 1).drew ?_
     replace hM := hM.drew
     refine D.valF hA rfl (fun _ => R.build (cells := #[.int .i64 0, .slice none 0 0, .string (⟨#[]⟩)]) rfl (by kernel_rfl)) rfl ?_; clear hA a; intro a hA
     refine D.valF hA rfl (fun _ => R.move rfl) rfl ?_; clear hA a; intro a hA
     refine D.valF hA rfl (fun _ => R.nilCheck rfl) rfl ?_; clear hA a; intro a hA
     refine D.valF hA rfl (fun _ => R.fieldAddr (q := 1) fi51_1 rfl rfl rfl) rfl ?_; clear hA a; intro a hA
     refine D.val hA rfl (by kernel_rfl) (fun _ hM => R.load sz3 rfl (hM.cell (k := 0) rfl rfl)) rfl ?_; clear hA a; intro a hA
     refine D.valF hA rfl (fun _ => R.move rfl) rfl ?_; clear hA a; intro a hA
     refine D.storeA (k := 2) hA hM rfl sz26 rfl rfl rfl rfl rfl rfl ?_; clear hM
     intro w9 hM; refine ⟨fun _ _ => ((hM.drop 2).drop 1), ?_⟩
     replace hM : Mem _ _ [pt rb #[.string s, .int .i64 ((((cT s).1 : Nat) : Int))] 51, own 3 1 (.slice oa (((cN s).1).length) oc) (((cN s).1).length) (((cN s).1).map (Value.int .i64)), pt b1 #[.int .i64 0, .slice none 0 0, .string (⟨#[]⟩)] 26] _ := hM
     refine D.valF hA rfl (fun _ => R.assign rfl) rfl ?_; clear hA a; intro a hA
     refine D.valF hA rfl (fun _ => R.assign rfl) rfl ?_; clear hA a; intro a hA
     refine D.done ?_
     replace hA : St 70 [(2, _), (3, _), (4, _), (6, _), (9, _), (10, _)] a := hA.sub ((.cons rfl (.cons rfl (.cons rfl (.cons rfl (.cons rfl (.cons rfl .nil)))))))
     refine Ends.retC3 (k := 2) Tryd.func14 Tryd.results14 hA hM rfl rfl rfl rfl sz26 rfl ?_
     replace hM := hM.nilL.ownNil 3 1
     rw [hT]
     exact ⟨none, 0, rfl, hM⟩
    ·
     refine Ends.skip (Ends.seq (Ends.seq (Ends.region ?_)))
     refine S.val hA (R.move rfl) rfl ?_; clear hA a; intro a hA
     refine S.val hA (R.neq rfl rfl) rfl ?_; clear hA a; intro a hA
     refine S.done ?_
     refine Ends.ite hA rfl (fun hc8 => ?_) (fun hc8 => ?_)
     ·
      have hT : rdC s = (crz, ((cT s).1 : Int), (cT s).2) := by unfold rdC; rw [if_neg (not_not_intro hz1), if_neg (not_not_intro hz2), if_pos hc8]
      refine Ends.seq ?_
      refine Ends.drawn (Mem w nof [pt rb #[.string s, .int .i64 ((((cT s).1 : Nat) : Int))] 51]) (.cons (0, true) (.cons (1, true) (.cons (2, true) (.cons (3, true) (.cons (4, true) (.cons (5, true) (.cons (6, false) (.cons (7, true) (.cons (8, true) .nil))))))))) 9 mixed (by kernel_rfl) (by kernel_rfl) (by kernel_rfl) ((hM.drop 2).drop 1).drew ?_
      replace hM := hM.drew
      refine D.valF hA rfl (fun _ => R.build (cells := #[.int .i64 0, .slice none 0 0, .string (⟨#[]⟩)]) rfl (by kernel_rfl)) rfl ?_; clear hA a; intro a hA
      refine D.valF hA rfl (fun _ => R.move rfl) rfl ?_; clear hA a; intro a hA
      refine D.valF hA rfl (fun _ => R.nilCheck rfl) rfl ?_; clear hA a; intro a hA
      refine D.valF hA rfl (fun _ => R.fieldAddr (q := 1) fi51_1 rfl rfl rfl) rfl ?_; clear hA a; intro a hA
      refine D.val hA rfl (by kernel_rfl) (fun _ hM => R.load sz3 rfl (hM.cell (k := 0) rfl rfl)) rfl ?_; clear hA a; intro a hA
      refine D.valF hA rfl (fun _ => R.move rfl) rfl ?_; clear hA a; intro a hA
      refine D.storeA (k := 2) hA hM rfl sz26 rfl rfl rfl rfl rfl rfl ?_; clear hM
      intro w10 hM; refine ⟨fun _ _ => ((hM.drop 2).drop 1), ?_⟩
      replace hM : Mem _ _ [pt rb #[.string s, .int .i64 ((((cT s).1 : Nat) : Int))] 51, own 3 1 (.slice oa (((cN s).1).length) oc) (((cN s).1).length) (((cN s).1).map (Value.int .i64)), pt b1 #[.int .i64 0, .slice none 0 0, .string (⟨#[]⟩)] 26] _ := hM
      refine D.valF hA rfl (fun _ => R.assign rfl) rfl ?_; clear hA a; intro a hA
      refine D.valF hA rfl (fun _ => R.assign rfl) rfl ?_; clear hA a; intro a hA
      refine D.done ?_
      replace hA : St 70 [(2, _), (3, _), (4, _), (6, _), (9, _), (10, _)] a := hA.sub ((.cons rfl (.cons rfl (.cons rfl (.cons rfl (.cons rfl (.cons rfl .nil)))))))
      refine Ends.retC3 (k := 2) Tryd.func14 Tryd.results14 hA hM rfl rfl rfl rfl sz26 rfl ?_
      replace hM := hM.nilL.ownNil 3 1
      rw [hT]
      exact ⟨none, 0, rfl, hM⟩
     ·
      have hz3 := Decidable.not_not.1 hc8
      have hT : rdC s = (⟨(cH2 s).1, (cN s).1, s.extract (cN s).2.1 ((cN s).2.1 + cLt s (cN s).2.1)⟩, 0, 0) := by unfold rdC; rw [if_neg (not_not_intro hz1), if_neg (not_not_intro hz2), if_neg (not_not_intro hz3), if_neg (fun h9 => hc7 ⟨hz3, by omega⟩)]
      rw [hue hz3] at hA
      refine Ends.skip (Ends.seq (Ends.region ?_))
      refine S.val hA (R.move rfl) rfl ?_; clear hA a; intro a hA
      refine S.val hA (R.move rfl) rfl ?_; clear hA a; intro a hA
      refine S.val hA (R.move rfl) rfl ?_; clear hA a; intro a hA
      refine S.val hA (R.build (cells := #[.int .i64 ((cH2 s).1), .slice oa ((cN s).1.length) oc, .string ((s.extract (cN s).2.1 ((cN s).2.1 + cLt s (cN s).2.1)))]) rfl (by kernel_rfl)) rfl ?_; clear hA a; intro a hA
      refine S.storeA (k := 2) hA hM sz26 rfl rfl rfl rfl rfl rfl ?_; clear hM
      intro w11 hM
      replace hM : Mem _ _ [pt rb #[.string s, .int .i64 ((((cT s).1 : Nat) : Int))] 51, own 3 1 (.slice oa (((cN s).1).length) oc) (((cN s).1).length) (((cN s).1).map (Value.int .i64)), pt b1 #[.int .i64 ((cH2 s).1), .slice oa ((cN s).1.length) oc, .string ((s.extract (cN s).2.1 ((cN s).2.1 + cLt s (cN s).2.1)))] 26] _ := hM
      refine S.val hA (R.assign rfl) rfl ?_; clear hA a; intro a hA
      refine S.val hA (R.assign rfl) rfl ?_; clear hA a; intro a hA
      refine S.done ?_
      replace hA : St 70 [(2, _), (3, _), (4, _)] a := hA.sub ((.cons rfl (.cons rfl (.cons rfl .nil))))
      refine Ends.retC3 (k := 2) Tryd.func14 Tryd.results14 hA hM rfl rfl rfl rfl sz26 rfl ?_
      replace hM := hM.front (k := 1) rfl
      replace hM := hM.firstN 1
      rw [hT]
      exact ⟨_, _, rfl, hM⟩
   ·
    refine Ends.region ?_
    refine S.val hA (R.move rfl) rfl ?_; clear hA a; intro a hA
    refine S.val hA (R.eql rfl rfl) rfl ?_; clear hA a; intro a hA
    refine S.val hA (R.move rfl) rfl ?_; clear hA a; intro a hA
    refine hA.split (d := 49) rfl ?_ ?_
    ·
     clear hA; intro hg9 hA
     refine S.valg (dj := 49) hA (by kernel_rfl) rfl (R.move rfl) rfl ?_; clear hA a; intro a hA
     refine S.valg (dj := 49) hA (by kernel_rfl) rfl (R.nilCheck rfl) rfl ?_; clear hA a; intro a hA
     refine S.valg (dj := 49) hA (by kernel_rfl) rfl (R.fieldAddr (q := 1) fi51_1 rfl rfl rfl) rfl ?_; clear hA a; intro a hA
     refine S.valg (dj := 49) hA (by kernel_rfl) rfl (R.load sz3 rfl (hM.cell (k := 0) rfl rfl)) rfl ?_; clear hA a; intro a hA
     refine S.valg (dj := 49) hA (by kernel_rfl) rfl (R.move rfl) rfl ?_; clear hA a; intro a hA
     refine S.valg (dj := 49) hA (by kernel_rfl) rfl (R.lenStr Tryd.underlying9 rfl rfl) rfl ?_; clear hA a; intro a hA
     refine S.valg (dj := 49) hA (by kernel_rfl) rfl (R.lss rfl rfl) rfl ?_; clear hA a; intro a hA
     refine S.val hA (R.pickT rfl rfl) rfl ?_; clear hA a; intro a hA
     refine S.done ?_
     replace hA : St 70 [(2, _), (5, _), (6, _), (8, _), (9, _), (10, _), (57, _)] a := hA.sub ((.cons rfl (.cons rfl (.cons rfl (.cons rfl (.cons rfl (.cons rfl (.cons rfl .nil))))))))
     exact hJ _ _ ⟨hA.sub (.cons rfl (.cons rfl (.cons rfl (.cons rfl (.cons rfl (.cons rfl (.cons (by first | rfl | exact congrArg (fun b => some (Value.bool b)) (by first | exact decide_eq_decide.2 (by omega) | exact or_bool (by omega) | exact and_bool (by omega) | (simp; done) | (simp [hg9]; done) | (have h80 := hg9; (try simp at h80); simp [h80]; done) | exact (decide_eq_false (fun h9 => hg9 h9.1)).symm)) .nil))))))), hM⟩
    ·
     clear hA; intro hg9 hA
     refine S.no (dj := 49) hA (by kernel_rfl) rfl rfl rfl ?_; clear hA a; intro a hA
     refine S.no (dj := 49) hA (by kernel_rfl) rfl rfl rfl ?_; clear hA a; intro a hA
     refine S.no (dj := 49) hA (by kernel_rfl) rfl rfl rfl ?_; clear hA a; intro a hA
     refine S.no (dj := 49) hA (by kernel_rfl) rfl rfl rfl ?_; clear hA a; intro a hA
     refine S.no (dj := 49) hA (by kernel_rfl) rfl rfl rfl ?_; clear hA a; intro a hA
     refine S.no (dj := 49) hA (by kernel_rfl) rfl rfl rfl ?_; clear hA a; intro a hA
     refine S.no (dj := 49) hA (by kernel_rfl) rfl rfl rfl ?_; clear hA a; intro a hA
     refine S.val hA (R.pickF rfl rfl) rfl ?_; clear hA a; intro a hA
     refine S.done ?_
     replace hA : St 70 [(2, _), (5, _), (6, _), (8, _), (9, _), (10, _), (57, _)] a := hA.sub ((.cons rfl (.cons rfl (.cons rfl (.cons rfl (.cons rfl (.cons rfl (.cons rfl .nil))))))))
     exact hJ _ _ ⟨hA.sub (.cons rfl (.cons rfl (.cons rfl (.cons rfl (.cons rfl (.cons rfl (.cons (by first | rfl | exact congrArg (fun b => some (Value.bool b)) (by first | exact decide_eq_decide.2 (by omega) | exact or_bool (by omega) | exact and_bool (by omega) | (simp; done) | (simp [hg9]; done) | (have h80 := hg9; (try simp at h80); simp [h80]; done) | exact (decide_eq_false (fun h9 => hg9 h9.1)).symm)) .nil))))))), hM⟩
end Go.Proofs.YtnhnjjlfoajbgaaDoor
namespace Go.Proofs.YtnhnjjlfoajbgaaDoor
open Go.RowKit
set_option maxRecDepth 100000 in
set_option maxHeartbeats 400000 in
theorem rdig_any (c : Int) (w : World) :
    Calls Tryd.prog 39 #[.int .u8 c] w fun e w' => e = .returned (.bool (decide (48 ≤ c ∧ c ≤ 57))) ∧ Below w.heap.size w w' := by
  have hM := Mem.start w
  refine Calls.of_ends (vs := [.int .u8 c]) Tryd.func39 rfl Tryd.ntmps39 rfl ?_
  intro a hA
  replace hA : St 9 [(0, _)] a := hA
  refine Ends.seq (Ends.region ?_)
  refine S.val hA (R.assign rfl) rfl ?_; clear hA a; intro a hA
  refine S.done ?_
  refine Ends.seq ?_
  refine Ends.cut (fun (a : Act) (wv : World) => St 9 [(2, .bool (decide ((48 ≤ c ∧ c ≤ 57))))] a ∧ Mem w nof [] wv) ?_ (fun k2 hJ => ?_)
  · clear hA hM a; rintro a w1 ⟨hA, hM⟩
    refine Ends.ret1 Tryd.func39 Tryd.results39 hA rfl ?_
    exact ⟨rfl, hM.nilL.below⟩
  ·
    refine Ends.region ?_
    refine S.val hA (R.move rfl) rfl ?_; clear hA a; intro a hA
    refine S.val hA (R.geq rfl rfl) rfl ?_; clear hA a; intro a hA
    refine S.val hA (R.move rfl) rfl ?_; clear hA a; intro a hA
    refine hA.split (d := 5) rfl ?_ ?_
    · clear hA; intro hg1 hA
      refine S.valg (dj := 5) hA (by kernel_rfl) rfl (R.move rfl) rfl ?_; clear hA a; intro a hA
      refine S.valg (dj := 5) hA (by kernel_rfl) rfl (R.leq rfl rfl) rfl ?_; clear hA a; intro a hA
      refine S.val hA (R.pickT rfl rfl) rfl ?_; clear hA a; intro a hA
      refine S.val hA (R.assign rfl) rfl ?_; clear hA a; intro a hA
      refine S.done ?_
      replace hA : St 9 [(2, _)] a := hA.sub ((.cons rfl .nil))
      exact hJ _ _ ⟨hA.sub (.cons (by first | rfl | exact congrArg (fun b => some (Value.bool b)) (by first | exact decide_eq_decide.2 (by omega) | exact or_bool (by omega) | exact and_bool (by omega) | (simp; done) | (simp [hg1]; done) | (have h80 := hg1; (try simp at h80); simp [h80]; done) | exact (decide_eq_false (fun h9 => hg1 h9.1)).symm)) .nil), hM⟩
    · clear hA; intro hg1 hA
      refine S.no (dj := 5) hA (by kernel_rfl) rfl rfl rfl ?_; clear hA a; intro a hA
      refine S.no (dj := 5) hA (by kernel_rfl) rfl rfl rfl ?_; clear hA a; intro a hA
      refine S.val hA (R.pickF rfl rfl) rfl ?_; clear hA a; intro a hA
      refine S.val hA (R.assign rfl) rfl ?_; clear hA a; intro a hA
      refine S.done ?_
      replace hA : St 9 [(2, _)] a := hA.sub ((.cons rfl .nil))
      exact hJ _ _ ⟨hA.sub (.cons (by first | rfl | exact congrArg (fun b => some (Value.bool b)) (by first | exact decide_eq_decide.2 (by omega) | exact or_bool (by omega) | exact and_bool (by omega) | (simp; done) | (simp [hg1]; done) | (have h80 := hg1; (try simp at h80); simp [h80]; done) | exact (decide_eq_false (fun h9 => hg1 h9.1)).symm)) .nil), hM⟩
set_option maxRecDepth 100000 in
set_option maxHeartbeats 400000 in
theorem rread_out (s : ByteArray) (p : Int) (h : p < 0 ∨ (s.size : Int) < p) (w : World) :
  Calls Tryd.prog 34 #[.string s, .int .i64 p] w fun e w' => e = .returned (.tuple #[.int .i64 (0), .int .i64 (0), .int .i64 (1)]) ∧ Below w.heap.size w w' := by
 have hM := Mem.start w
 refine Calls.of_ends (vs := [.string s, .int .i64 p]) Tryd.func34 rfl Tryd.ntmps34 rfl ?_
 intro a hA
 replace hA : St 66 [(0, _), (1, _)] a := hA
 refine Ends.seq (Ends.region ?_)
 refine S.val hA (R.assign rfl) rfl ?_; clear hA a; intro a hA
 refine S.val hA (R.assign rfl) rfl ?_; clear hA a; intro a hA
 refine S.val hA (R.assign rfl) rfl ?_; clear hA a; intro a hA
 refine S.done ?_
 refine Ends.seq (Ends.seq ?_)
 refine Ends.cut (fun (a : Act) (wv : World) => St 66 [(0, .string s), (1, .int .i64 p), (17, .bool (decide ((p < 0 ∨ ((s.size : Int)) < p))))] a ∧ Mem w nof [] wv) ?_ (fun k2 hJ => ?_)
 ·
  clear hA hM a; rintro a w1 ⟨hA, hM⟩
  refine Ends.ite hA rfl (fun hc1 => ?_) (fun hc1 => ?_)
  ·
   refine Ends.seq (Ends.region ?_)
   refine S.val hA (R.assign rfl) rfl ?_; clear hA a; intro a hA
   refine S.val hA (R.assign rfl) rfl ?_; clear hA a; intro a hA
   refine S.val hA (R.assign rfl) rfl ?_; clear hA a; intro a hA
   refine S.done ?_
   refine Ends.ret3 Tryd.func34 Tryd.results34 hA rfl rfl rfl ?_
   exact ⟨rfl, hM.nilL.below⟩
  · exfalso; omega
 ·
  refine Ends.region ?_
  refine S.val hA (R.move rfl) rfl ?_; clear hA a; intro a hA
  refine S.val hA (R.lss rfl rfl) rfl ?_; clear hA a; intro a hA
  refine S.val hA (R.move rfl) rfl ?_; clear hA a; intro a hA
  refine hA.split (d := 12) rfl ?_ ?_
  ·
   clear hA; intro hg2 hA
   refine S.no (dj := 12) hA (by kernel_rfl) rfl rfl rfl ?_; clear hA a; intro a hA
   refine S.no (dj := 12) hA (by kernel_rfl) rfl rfl rfl ?_; clear hA a; intro a hA
   refine S.no (dj := 12) hA (by kernel_rfl) rfl rfl rfl ?_; clear hA a; intro a hA
   refine S.no (dj := 12) hA (by kernel_rfl) rfl rfl rfl ?_; clear hA a; intro a hA
   refine S.val hA (R.pickT rfl rfl) rfl ?_; clear hA a; intro a hA
   refine S.done ?_
   replace hA : St 66 [(0, _), (1, _), (17, _)] a := hA.sub ((.cons rfl (.cons rfl (.cons rfl .nil))))
   exact hJ _ _ ⟨hA.sub (.cons rfl (.cons rfl (.cons (by first | rfl | exact congrArg (fun b => some (Value.bool b)) (by first | exact decide_eq_decide.2 (by omega) | exact or_bool (by omega) | exact and_bool (by omega) | (simp; done) | (simp [hg2]; done) | (have h80 := hg2; (try simp at h80); simp [h80]; done) | exact (decide_eq_false (fun h9 => hg2 h9.1)).symm)) .nil))), hM⟩
  ·
   clear hA; intro hg2 hA
   refine S.valg (dj := 12) hA (by kernel_rfl) rfl (R.move rfl) rfl ?_; clear hA a; intro a hA
   refine S.valg (dj := 12) hA (by kernel_rfl) rfl (R.move rfl) rfl ?_; clear hA a; intro a hA
   refine S.valg (dj := 12) hA (by kernel_rfl) rfl (R.lenStr Tryd.underlying9 rfl rfl) rfl ?_; clear hA a; intro a hA
   refine S.valg (dj := 12) hA (by kernel_rfl) rfl (R.gtr rfl rfl) rfl ?_; clear hA a; intro a hA
   refine S.val hA (R.pickF rfl rfl) rfl ?_; clear hA a; intro a hA
   refine S.done ?_
   replace hA : St 66 [(0, _), (1, _), (17, _)] a := hA.sub ((.cons rfl (.cons rfl (.cons rfl .nil))))
   exact hJ _ _ ⟨hA.sub (.cons rfl (.cons rfl (.cons (by first | rfl | exact congrArg (fun b => some (Value.bool b)) (by first | exact decide_eq_decide.2 (by omega) | exact or_bool (by omega) | exact and_bool (by omega) | (simp; done) | (simp [hg2]; done) | (have h80 := hg2; (try simp at h80); simp [h80]; done) | exact (decide_eq_false (fun h9 => hg2 h9.1)).symm)) .nil))), hM⟩
theorem rdig_yes (c : Int) (h : 48 ≤ c ∧ c ≤ 57) (w : World) : Calls Tryd.prog 39 #[.int .u8 c] w fun e w' => e = .returned (.bool true) ∧ Below w.heap.size w w' :=
  (rdig_any c w).mono fun e w' ⟨he, hb⟩ => ⟨by rw [he, decide_eq_true h], hb⟩
theorem rdig_no (c : Int) (h : ¬ (48 ≤ c ∧ c ≤ 57)) (w : World) : Calls Tryd.prog 39 #[.int .u8 c] w fun e w' => e = .returned (.bool false) ∧ Below w.heap.size w w' :=
  (rdig_any c w).mono fun e w' ⟨he, hb⟩ => ⟨by rw [he, decide_eq_false h], hb⟩
set_option maxRecDepth 100000 in
set_option maxHeartbeats 400000 in
theorem rread_none (s : ByteArray) (x k : Nat) (hx : x ≤ s.size) (hk : dgs s x = k) (hsz : s.size ≤ 9223372036854775807) (h : k = 0) (w : World) :
  Calls Tryd.prog 34 #[.string s, .int .i64 ((x : Int))] w fun e w' => e = .returned (.tuple #[.int .i64 (0), .int .i64 (0), .int .i64 (4)]) ∧ Below w.heap.size w w' := by
 have hdg : ∀ j, j < k → dig s (x + j) := fun j hj => (dgs_spec s x).1 j (by omega)
 have hle := dgs_le s hx
 rw [hk] at hle
 have hM := Mem.start w
 refine Calls.of_ends (vs := [.string s, .int .i64 ((x : Int))]) Tryd.func34 rfl Tryd.ntmps34 rfl ?_
 intro a hA
 replace hA : St 66 [(0, _), (1, _)] a := hA
 refine Ends.seq (Ends.region ?_)
 refine S.val hA (R.assign rfl) rfl ?_; clear hA a; intro a hA
 refine S.val hA (R.assign rfl) rfl ?_; clear hA a; intro a hA
 refine S.val hA (R.assign rfl) rfl ?_; clear hA a; intro a hA
 refine S.done ?_
 refine Ends.seq (Ends.seq (Ends.region ?_))
 refine S.val hA (R.move rfl) rfl ?_; clear hA a; intro a hA
 refine S.val hA (R.ff (R.lss rfl rfl) (by first | omega | (simp; done))) rfl ?_; clear hA a; intro a hA
 refine S.val hA (R.move rfl) rfl ?_; clear hA a; intro a hA
 refine S.valg (dj := 12) hA (by kernel_rfl) rfl (R.move rfl) rfl ?_; clear hA a; intro a hA
 refine S.valg (dj := 12) hA (by kernel_rfl) rfl (R.move rfl) rfl ?_; clear hA a; intro a hA
 refine S.valg (dj := 12) hA (by kernel_rfl) rfl (R.lenStr Tryd.underlying9 rfl rfl) rfl ?_; clear hA a; intro a hA
 refine S.valg (dj := 12) hA (by kernel_rfl) rfl (R.ff (R.gtr rfl rfl) (by first | omega | (simp; done))) rfl ?_; clear hA a; intro a hA
 refine S.val hA (R.pickF rfl rfl) rfl ?_; clear hA a; intro a hA
 refine S.done ?_
 replace hA : St 66 [(0, _), (1, _), (17, _)] a := hA.sub ((.cons rfl (.cons rfl (.cons rfl .nil))))
 refine Ends.condF hA rfl ?_
 refine Ends.skip (Ends.seq (Ends.region ?_))
 refine S.val hA (R.move rfl) rfl ?_; clear hA a; intro a hA
 refine S.val hA (R.assign rfl) rfl ?_; clear hA a; intro a hA
 refine S.done ?_
 refine Ends.seq (Ends.block ?_)
 refine Ends.loop (σ := Nat) (fun q (a : Act) (wv : World) => St 66 [(0, .string s), (1, .int .i64 ((x : Int))), (7, .int .i64 ((x : Int) + (q : Int)))] a ∧ Mem w nof [] wv ∧ (x + q ≤ s.size) ∧ (∀ j, j < q → dig s (x + j))) (fun q => s.size - (x + q)) 0 ⟨hA.sub ((.cons rfl (.cons rfl (.cons rfl .nil)))), hM, (by omega), (fun j hj => absurd hj (Nat.not_lt_zero j))⟩ ?_
 clear hA hM a
 rintro q a w1 ⟨hA, hM, hq, hd⟩ hNext
 refine Ends.seq (Ends.seq ?_)
 by_cases hs1 : dig s (x + q)
 ·
  have hdq := hs1
  have hdq1 := hdq.1
  have hdq2 := hdq.2
  refine Ends.region ?_
  refine S.val hA (R.move rfl) rfl ?_; clear hA a; intro a hA
  refine S.val hA (R.move rfl) rfl ?_; clear hA a; intro a hA
  refine S.val hA (R.lenStr Tryd.underlying9 rfl rfl) rfl ?_; clear hA a; intro a hA
  refine S.val hA (R.tt (R.lss rfl rfl) (by first | omega | (simp; done))) rfl ?_; clear hA a; intro a hA
  refine S.val hA (R.move rfl) rfl ?_; clear hA a; intro a hA
  refine S.valg (dj := 23) hA (by kernel_rfl) rfl (R.move rfl) rfl ?_; clear hA a; intro a hA
  refine S.valg (dj := 23) hA (by kernel_rfl) rfl (R.move rfl) rfl ?_; clear hA a; intro a hA
  refine S.valg (dj := 23) hA (by kernel_rfl) rfl (R.to (v := .int .u8 (byt s (x + q))) (R.idxS Tryd.underlying9 rfl rfl (by first | omega | (simp; done))) (by first | rfl | (congr 2; done) | (congr 2; omega))) rfl ?_; clear hA a; intro a hA
  refine S.callg (dj := 23) hA (by kernel_rfl) rfl (R.callF Tryd.func39 rfl rfl rfl) rfl ((rdig_yes (byt s (x + q)) hdq2 _)) ?_; clear hA a
  rintro e w2 ⟨rfl, hb⟩
  replace hM := hM.callB hb; clear hb
  refine ⟨.bool true, rfl, fun a hA => ?_⟩
  refine S.val hA (R.pickT rfl rfl) rfl ?_; clear hA a; intro a hA
  refine S.done ?_
  replace hA : St 66 [(0, _), (1, _), (7, _), (28, _)] a := hA.sub ((.cons rfl (.cons rfl (.cons rfl (.cons rfl .nil)))))
  refine Ends.condT hA rfl ?_
  refine Ends.skip (Ends.block (Ends.region ?_))
  refine S.val hA (R.move rfl) rfl ?_; clear hA a; intro a hA
  refine S.val hA (R.addI rfl rfl (r := ((x : Int) + (q : Int)) + 1) rfl (by first | omega | (simp; done))) rfl ?_; clear hA a; intro a hA
  refine S.val hA (R.assign rfl) rfl ?_; clear hA a; intro a hA
  refine S.done ?_
  refine Ends.inBlock ?_
  have hdl := (hs1).1
  exact hNext ((q + 1)) _ _ ((by show s.size - (x + (q + 1)) < s.size - (x + q); omega)) ⟨hA.sub ((.cons rfl (.cons rfl (.cons rfl .nil)))), hM, (by omega), (fun j hj => by rcases Nat.lt_or_ge j q with g | g; exact hd j g; have e : j = q := (by omega); exact e ▸ hs1)⟩
 ·
  have hkq : q = k := by rw [← hk]; exact (dgs_uniq hd hs1).symm
  by_cases hs2 : x + q < s.size
  ·
   refine Ends.region ?_
   refine S.val hA (R.move rfl) rfl ?_; clear hA a; intro a hA
   refine S.val hA (R.move rfl) rfl ?_; clear hA a; intro a hA
   refine S.val hA (R.lenStr Tryd.underlying9 rfl rfl) rfl ?_; clear hA a; intro a hA
   refine S.val hA (R.tt (R.lss rfl rfl) (by first | omega | (simp; done))) rfl ?_; clear hA a; intro a hA
   refine S.val hA (R.move rfl) rfl ?_; clear hA a; intro a hA
   refine S.valg (dj := 23) hA (by kernel_rfl) rfl (R.move rfl) rfl ?_; clear hA a; intro a hA
   refine S.valg (dj := 23) hA (by kernel_rfl) rfl (R.move rfl) rfl ?_; clear hA a; intro a hA
   refine S.valg (dj := 23) hA (by kernel_rfl) rfl (R.to (v := .int .u8 (byt s (x + q))) (R.idxS Tryd.underlying9 rfl rfl (by first | omega | (simp; done))) (by first | rfl | (congr 2; done) | (congr 2; omega))) rfl ?_; clear hA a; intro a hA
   refine S.callg (dj := 23) hA (by kernel_rfl) rfl (R.callF Tryd.func39 rfl rfl rfl) rfl ((rdig_no (byt s (x + q)) (fun h => hs1 ⟨hs2, h⟩) _)) ?_; clear hA a
   rintro e w3 ⟨rfl, hb⟩
   replace hM := hM.callB hb; clear hb
   refine ⟨.bool false, rfl, fun a hA => ?_⟩
   refine S.val hA (R.pickT rfl rfl) rfl ?_; clear hA a; intro a hA
   refine S.done ?_
   replace hA : St 66 [(0, _), (1, _), (7, _), (28, _)] a := hA.sub ((.cons rfl (.cons rfl (.cons rfl (.cons rfl .nil)))))
   refine Ends.condF hA rfl ?_
   refine Ends.exit rfl ?_
   refine Ends.seq (Ends.seq (Ends.region ?_))
   refine S.val hA (R.move rfl) rfl ?_; clear hA a; intro a hA
   refine S.val hA (R.move rfl) rfl ?_; clear hA a; intro a hA
   refine S.val hA (R.tt (R.eql rfl rfl) (by first | omega | (simp; done))) rfl ?_; clear hA a; intro a hA
   refine S.val hA (R.move rfl) rfl ?_; clear hA a; intro a hA
   refine S.no (dj := 34) hA (by kernel_rfl) rfl rfl rfl ?_; clear hA a; intro a hA
   refine S.no (dj := 34) hA (by kernel_rfl) rfl rfl rfl ?_; clear hA a; intro a hA
   refine S.no (dj := 34) hA (by kernel_rfl) rfl rfl rfl ?_; clear hA a; intro a hA
   refine S.no (dj := 34) hA (by kernel_rfl) rfl rfl rfl ?_; clear hA a; intro a hA
   refine S.no (dj := 34) hA (by kernel_rfl) rfl rfl rfl ?_; clear hA a; intro a hA
   refine S.noU (dj := 39) hA (by kernel_rfl) rfl rfl ?_; clear hA a; intro a hA
   refine S.noU (dj := 39) hA (by kernel_rfl) rfl rfl ?_; clear hA a; intro a hA
   refine S.noU (dj := 39) hA (by kernel_rfl) rfl rfl ?_; clear hA a; intro a hA
   refine S.noU (dj := 39) hA (by kernel_rfl) rfl rfl ?_; clear hA a; intro a hA
   refine S.no (dj := 34) hA (by kernel_rfl) rfl rfl rfl ?_; clear hA a; intro a hA
   refine S.val hA (R.pickT rfl rfl) rfl ?_; clear hA a; intro a hA
   refine S.done ?_
   replace hA : St 66 [(0, _), (1, _), (7, _), (45, _)] a := hA.sub ((.cons rfl (.cons rfl (.cons rfl (.cons rfl .nil)))))
   refine Ends.condT hA rfl ?_
   refine Ends.seq (Ends.region ?_)
   refine S.val hA (R.assign rfl) rfl ?_; clear hA a; intro a hA
   refine S.val hA (R.assign rfl) rfl ?_; clear hA a; intro a hA
   refine S.val hA (R.assign rfl) rfl ?_; clear hA a; intro a hA
   refine S.done ?_
   refine Ends.ret3 Tryd.func34 Tryd.results34 hA rfl rfl rfl ?_
   exact ⟨rfl, hM.nilL.below⟩
  ·
   refine Ends.region ?_
   refine S.val hA (R.move rfl) rfl ?_; clear hA a; intro a hA
   refine S.val hA (R.move rfl) rfl ?_; clear hA a; intro a hA
   refine S.val hA (R.lenStr Tryd.underlying9 rfl rfl) rfl ?_; clear hA a; intro a hA
   refine S.val hA (R.ff (R.lss rfl rfl) (by first | omega | (simp; done))) rfl ?_; clear hA a; intro a hA
   refine S.val hA (R.move rfl) rfl ?_; clear hA a; intro a hA
   refine S.no (dj := 23) hA (by kernel_rfl) rfl rfl rfl ?_; clear hA a; intro a hA
   refine S.no (dj := 23) hA (by kernel_rfl) rfl rfl rfl ?_; clear hA a; intro a hA
   refine S.no (dj := 23) hA (by kernel_rfl) rfl rfl rfl ?_; clear hA a; intro a hA
   refine S.no (dj := 23) hA (by kernel_rfl) rfl rfl rfl ?_; clear hA a; intro a hA
   refine S.val hA (R.pickF rfl rfl) rfl ?_; clear hA a; intro a hA
   refine S.done ?_
   replace hA : St 66 [(0, _), (1, _), (7, _), (28, _)] a := hA.sub ((.cons rfl (.cons rfl (.cons rfl (.cons rfl .nil)))))
   refine Ends.condF hA rfl ?_
   refine Ends.exit rfl ?_
   refine Ends.seq (Ends.seq (Ends.region ?_))
   refine S.val hA (R.move rfl) rfl ?_; clear hA a; intro a hA
   refine S.val hA (R.move rfl) rfl ?_; clear hA a; intro a hA
   refine S.val hA (R.tt (R.eql rfl rfl) (by first | omega | (simp; done))) rfl ?_; clear hA a; intro a hA
   refine S.val hA (R.move rfl) rfl ?_; clear hA a; intro a hA
   refine S.no (dj := 34) hA (by kernel_rfl) rfl rfl rfl ?_; clear hA a; intro a hA
   refine S.no (dj := 34) hA (by kernel_rfl) rfl rfl rfl ?_; clear hA a; intro a hA
   refine S.no (dj := 34) hA (by kernel_rfl) rfl rfl rfl ?_; clear hA a; intro a hA
   refine S.no (dj := 34) hA (by kernel_rfl) rfl rfl rfl ?_; clear hA a; intro a hA
   refine S.no (dj := 34) hA (by kernel_rfl) rfl rfl rfl ?_; clear hA a; intro a hA
   refine S.noU (dj := 39) hA (by kernel_rfl) rfl rfl ?_; clear hA a; intro a hA
   refine S.noU (dj := 39) hA (by kernel_rfl) rfl rfl ?_; clear hA a; intro a hA
   refine S.noU (dj := 39) hA (by kernel_rfl) rfl rfl ?_; clear hA a; intro a hA
   refine S.noU (dj := 39) hA (by kernel_rfl) rfl rfl ?_; clear hA a; intro a hA
   refine S.no (dj := 34) hA (by kernel_rfl) rfl rfl rfl ?_; clear hA a; intro a hA
   refine S.val hA (R.pickT rfl rfl) rfl ?_; clear hA a; intro a hA
   refine S.done ?_
   replace hA : St 66 [(0, _), (1, _), (7, _), (45, _)] a := hA.sub ((.cons rfl (.cons rfl (.cons rfl (.cons rfl .nil)))))
   refine Ends.condT hA rfl ?_
   refine Ends.seq (Ends.region ?_)
   refine S.val hA (R.assign rfl) rfl ?_; clear hA a; intro a hA
   refine S.val hA (R.assign rfl) rfl ?_; clear hA a; intro a hA
   refine S.val hA (R.assign rfl) rfl ?_; clear hA a; intro a hA
   refine S.done ?_
   refine Ends.ret3 Tryd.func34 Tryd.results34 hA rfl rfl rfl ?_
   exact ⟨rfl, hM.nilL.below⟩
set_option maxRecDepth 100000 in
set_option maxHeartbeats 400000 in
theorem rread_nul (s : ByteArray) (x k : Nat) (hx : x ≤ s.size) (hk : dgs s x = k) (hsz : s.size ≤ 9223372036854775807) (h : 1 < k) (h0 : byt s x = 48) (w : World) :
  Calls Tryd.prog 34 #[.string s, .int .i64 ((x : Int))] w fun e w' => e = .returned (.tuple #[.int .i64 (0), .int .i64 (0), .int .i64 (4)]) ∧ Below w.heap.size w w' := by
 have hdg : ∀ j, j < k → dig s (x + j) := fun j hj => (dgs_spec s x).1 j (by omega)
 have hle := dgs_le s hx
 rw [hk] at hle
 have hM := Mem.start w
 refine Calls.of_ends (vs := [.string s, .int .i64 ((x : Int))]) Tryd.func34 rfl Tryd.ntmps34 rfl ?_
 intro a hA
 replace hA : St 66 [(0, _), (1, _)] a := hA
 refine Ends.seq (Ends.region ?_)
 refine S.val hA (R.assign rfl) rfl ?_; clear hA a; intro a hA
 refine S.val hA (R.assign rfl) rfl ?_; clear hA a; intro a hA
 refine S.val hA (R.assign rfl) rfl ?_; clear hA a; intro a hA
 refine S.done ?_
 refine Ends.seq (Ends.seq (Ends.region ?_))
 refine S.val hA (R.move rfl) rfl ?_; clear hA a; intro a hA
 refine S.val hA (R.ff (R.lss rfl rfl) (by first | omega | (simp; done))) rfl ?_; clear hA a; intro a hA
 refine S.val hA (R.move rfl) rfl ?_; clear hA a; intro a hA
 refine S.valg (dj := 12) hA (by kernel_rfl) rfl (R.move rfl) rfl ?_; clear hA a; intro a hA
 refine S.valg (dj := 12) hA (by kernel_rfl) rfl (R.move rfl) rfl ?_; clear hA a; intro a hA
 refine S.valg (dj := 12) hA (by kernel_rfl) rfl (R.lenStr Tryd.underlying9 rfl rfl) rfl ?_; clear hA a; intro a hA
 refine S.valg (dj := 12) hA (by kernel_rfl) rfl (R.ff (R.gtr rfl rfl) (by first | omega | (simp; done))) rfl ?_; clear hA a; intro a hA
 refine S.val hA (R.pickF rfl rfl) rfl ?_; clear hA a; intro a hA
 refine S.done ?_
 replace hA : St 66 [(0, _), (1, _), (17, _)] a := hA.sub ((.cons rfl (.cons rfl (.cons rfl .nil))))
 refine Ends.condF hA rfl ?_
 refine Ends.skip (Ends.seq (Ends.region ?_))
 refine S.val hA (R.move rfl) rfl ?_; clear hA a; intro a hA
 refine S.val hA (R.assign rfl) rfl ?_; clear hA a; intro a hA
 refine S.done ?_
 refine Ends.seq (Ends.block ?_)
 refine Ends.loop (σ := Nat) (fun q (a : Act) (wv : World) => St 66 [(0, .string s), (1, .int .i64 ((x : Int))), (7, .int .i64 ((x : Int) + (q : Int)))] a ∧ Mem w nof [] wv ∧ (x + q ≤ s.size) ∧ (∀ j, j < q → dig s (x + j))) (fun q => s.size - (x + q)) 0 ⟨hA.sub ((.cons rfl (.cons rfl (.cons rfl .nil)))), hM, (by omega), (fun j hj => absurd hj (Nat.not_lt_zero j))⟩ ?_
 clear hA hM a
 rintro q a w1 ⟨hA, hM, hq, hd⟩ hNext
 refine Ends.seq (Ends.seq ?_)
 by_cases hs1 : dig s (x + q)
 ·
  have hdq := hs1
  have hdq1 := hdq.1
  have hdq2 := hdq.2
  refine Ends.region ?_
  refine S.val hA (R.move rfl) rfl ?_; clear hA a; intro a hA
  refine S.val hA (R.move rfl) rfl ?_; clear hA a; intro a hA
  refine S.val hA (R.lenStr Tryd.underlying9 rfl rfl) rfl ?_; clear hA a; intro a hA
  refine S.val hA (R.tt (R.lss rfl rfl) (by first | omega | (simp; done))) rfl ?_; clear hA a; intro a hA
  refine S.val hA (R.move rfl) rfl ?_; clear hA a; intro a hA
  refine S.valg (dj := 23) hA (by kernel_rfl) rfl (R.move rfl) rfl ?_; clear hA a; intro a hA
  refine S.valg (dj := 23) hA (by kernel_rfl) rfl (R.move rfl) rfl ?_; clear hA a; intro a hA
  refine S.valg (dj := 23) hA (by kernel_rfl) rfl (R.to (v := .int .u8 (byt s (x + q))) (R.idxS Tryd.underlying9 rfl rfl (by first | omega | (simp; done))) (by first | rfl | (congr 2; done) | (congr 2; omega))) rfl ?_; clear hA a; intro a hA
  refine S.callg (dj := 23) hA (by kernel_rfl) rfl (R.callF Tryd.func39 rfl rfl rfl) rfl ((rdig_yes (byt s (x + q)) hdq2 _)) ?_; clear hA a
  rintro e w2 ⟨rfl, hb⟩
  replace hM := hM.callB hb; clear hb
  refine ⟨.bool true, rfl, fun a hA => ?_⟩
  refine S.val hA (R.pickT rfl rfl) rfl ?_; clear hA a; intro a hA
  refine S.done ?_
  replace hA : St 66 [(0, _), (1, _), (7, _), (28, _)] a := hA.sub ((.cons rfl (.cons rfl (.cons rfl (.cons rfl .nil)))))
  refine Ends.condT hA rfl ?_
  refine Ends.skip (Ends.block (Ends.region ?_))
  refine S.val hA (R.move rfl) rfl ?_; clear hA a; intro a hA
  refine S.val hA (R.addI rfl rfl (r := ((x : Int) + (q : Int)) + 1) rfl (by first | omega | (simp; done))) rfl ?_; clear hA a; intro a hA
  refine S.val hA (R.assign rfl) rfl ?_; clear hA a; intro a hA
  refine S.done ?_
  refine Ends.inBlock ?_
  have hdl := (hs1).1
  exact hNext ((q + 1)) _ _ ((by show s.size - (x + (q + 1)) < s.size - (x + q); omega)) ⟨hA.sub ((.cons rfl (.cons rfl (.cons rfl .nil)))), hM, (by omega), (fun j hj => by rcases Nat.lt_or_ge j q with g | g; exact hd j g; have e : j = q := (by omega); exact e ▸ hs1)⟩
 ·
  have hkq : q = k := by rw [← hk]; exact (dgs_uniq hd hs1).symm
  by_cases hs2 : x + q < s.size
  ·
   refine Ends.region ?_
   refine S.val hA (R.move rfl) rfl ?_; clear hA a; intro a hA
   refine S.val hA (R.move rfl) rfl ?_; clear hA a; intro a hA
   refine S.val hA (R.lenStr Tryd.underlying9 rfl rfl) rfl ?_; clear hA a; intro a hA
   refine S.val hA (R.tt (R.lss rfl rfl) (by first | omega | (simp; done))) rfl ?_; clear hA a; intro a hA
   refine S.val hA (R.move rfl) rfl ?_; clear hA a; intro a hA
   refine S.valg (dj := 23) hA (by kernel_rfl) rfl (R.move rfl) rfl ?_; clear hA a; intro a hA
   refine S.valg (dj := 23) hA (by kernel_rfl) rfl (R.move rfl) rfl ?_; clear hA a; intro a hA
   refine S.valg (dj := 23) hA (by kernel_rfl) rfl (R.to (v := .int .u8 (byt s (x + q))) (R.idxS Tryd.underlying9 rfl rfl (by first | omega | (simp; done))) (by first | rfl | (congr 2; done) | (congr 2; omega))) rfl ?_; clear hA a; intro a hA
   refine S.callg (dj := 23) hA (by kernel_rfl) rfl (R.callF Tryd.func39 rfl rfl rfl) rfl ((rdig_no (byt s (x + q)) (fun h => hs1 ⟨hs2, h⟩) _)) ?_; clear hA a
   rintro e w3 ⟨rfl, hb⟩
   replace hM := hM.callB hb; clear hb
   refine ⟨.bool false, rfl, fun a hA => ?_⟩
   refine S.val hA (R.pickT rfl rfl) rfl ?_; clear hA a; intro a hA
   refine S.done ?_
   replace hA : St 66 [(0, _), (1, _), (7, _), (28, _)] a := hA.sub ((.cons rfl (.cons rfl (.cons rfl (.cons rfl .nil)))))
   refine Ends.condF hA rfl ?_
   refine Ends.exit rfl ?_
   refine Ends.seq (Ends.seq (Ends.region ?_))
   refine S.val hA (R.move rfl) rfl ?_; clear hA a; intro a hA
   refine S.val hA (R.move rfl) rfl ?_; clear hA a; intro a hA
   refine S.val hA (R.ff (R.eql rfl rfl) (by first | omega | (simp; done))) rfl ?_; clear hA a; intro a hA
   refine S.val hA (R.move rfl) rfl ?_; clear hA a; intro a hA
   refine S.valg (dj := 34) hA (by kernel_rfl) rfl (R.move rfl) rfl ?_; clear hA a; intro a hA
   refine S.valg (dj := 34) hA (by kernel_rfl) rfl (R.move rfl) rfl ?_; clear hA a; intro a hA
   refine S.valg (dj := 34) hA (by kernel_rfl) rfl (R.subI rfl rfl (r := ((x : Int) + (q : Int)) - ((x : Int))) rfl (by first | omega | (simp; done))) rfl ?_; clear hA a; intro a hA
   refine S.valg (dj := 34) hA (by kernel_rfl) rfl (R.tt (R.gtr rfl rfl) (by first | omega | (simp; done))) rfl ?_; clear hA a; intro a hA
   refine S.valg (dj := 34) hA (by kernel_rfl) rfl (R.move rfl) rfl ?_; clear hA a; intro a hA
   refine S.valg (dj := 39) hA (by kernel_rfl) rfl (R.move rfl) rfl ?_; clear hA a; intro a hA
   refine S.valg (dj := 39) hA (by kernel_rfl) rfl (R.move rfl) rfl ?_; clear hA a; intro a hA
   refine S.valg (dj := 39) hA (by kernel_rfl) rfl (R.to (v := .int .u8 (byt s x)) (R.idxS Tryd.underlying9 rfl rfl (by first | omega | (simp; done))) (by first | rfl | (congr 2; done) | (congr 2; omega))) rfl ?_; clear hA a; intro a hA
   refine S.valg (dj := 39) hA (by kernel_rfl) rfl (R.tt (R.eql rfl rfl) (by first | omega | (simp; done))) rfl ?_; clear hA a; intro a hA
   refine S.valg (dj := 34) hA (by kernel_rfl) rfl (R.pickT rfl rfl) rfl ?_; clear hA a; intro a hA
   refine S.val hA (R.pickF rfl rfl) rfl ?_; clear hA a; intro a hA
   refine S.done ?_
   replace hA : St 66 [(0, _), (1, _), (7, _), (45, _)] a := hA.sub ((.cons rfl (.cons rfl (.cons rfl (.cons rfl .nil)))))
   refine Ends.condT hA rfl ?_
   refine Ends.seq (Ends.region ?_)
   refine S.val hA (R.assign rfl) rfl ?_; clear hA a; intro a hA
   refine S.val hA (R.assign rfl) rfl ?_; clear hA a; intro a hA
   refine S.val hA (R.assign rfl) rfl ?_; clear hA a; intro a hA
   refine S.done ?_
   refine Ends.ret3 Tryd.func34 Tryd.results34 hA rfl rfl rfl ?_
   exact ⟨rfl, hM.nilL.below⟩
  ·
   refine Ends.region ?_
   refine S.val hA (R.move rfl) rfl ?_; clear hA a; intro a hA
   refine S.val hA (R.move rfl) rfl ?_; clear hA a; intro a hA
   refine S.val hA (R.lenStr Tryd.underlying9 rfl rfl) rfl ?_; clear hA a; intro a hA
   refine S.val hA (R.ff (R.lss rfl rfl) (by first | omega | (simp; done))) rfl ?_; clear hA a; intro a hA
   refine S.val hA (R.move rfl) rfl ?_; clear hA a; intro a hA
   refine S.no (dj := 23) hA (by kernel_rfl) rfl rfl rfl ?_; clear hA a; intro a hA
   refine S.no (dj := 23) hA (by kernel_rfl) rfl rfl rfl ?_; clear hA a; intro a hA
   refine S.no (dj := 23) hA (by kernel_rfl) rfl rfl rfl ?_; clear hA a; intro a hA
   refine S.no (dj := 23) hA (by kernel_rfl) rfl rfl rfl ?_; clear hA a; intro a hA
   refine S.val hA (R.pickF rfl rfl) rfl ?_; clear hA a; intro a hA
   refine S.done ?_
   replace hA : St 66 [(0, _), (1, _), (7, _), (28, _)] a := hA.sub ((.cons rfl (.cons rfl (.cons rfl (.cons rfl .nil)))))
   refine Ends.condF hA rfl ?_
   refine Ends.exit rfl ?_
   refine Ends.seq (Ends.seq (Ends.region ?_))
   refine S.val hA (R.move rfl) rfl ?_; clear hA a; intro a hA
   refine S.val hA (R.move rfl) rfl ?_; clear hA a; intro a hA
   refine S.val hA (R.ff (R.eql rfl rfl) (by first | omega | (simp; done))) rfl ?_; clear hA a; intro a hA
   refine S.val hA (R.move rfl) rfl ?_; clear hA a; intro a hA
   refine S.valg (dj := 34) hA (by kernel_rfl) rfl (R.move rfl) rfl ?_; clear hA a; intro a hA
   refine S.valg (dj := 34) hA (by kernel_rfl) rfl (R.move rfl) rfl ?_; clear hA a; intro a hA
   refine S.valg (dj := 34) hA (by kernel_rfl) rfl (R.subI rfl rfl (r := ((x : Int) + (q : Int)) - ((x : Int))) rfl (by first | omega | (simp; done))) rfl ?_; clear hA a; intro a hA
   refine S.valg (dj := 34) hA (by kernel_rfl) rfl (R.tt (R.gtr rfl rfl) (by first | omega | (simp; done))) rfl ?_; clear hA a; intro a hA
   refine S.valg (dj := 34) hA (by kernel_rfl) rfl (R.move rfl) rfl ?_; clear hA a; intro a hA
   refine S.valg (dj := 39) hA (by kernel_rfl) rfl (R.move rfl) rfl ?_; clear hA a; intro a hA
   refine S.valg (dj := 39) hA (by kernel_rfl) rfl (R.move rfl) rfl ?_; clear hA a; intro a hA
   refine S.valg (dj := 39) hA (by kernel_rfl) rfl (R.to (v := .int .u8 (byt s x)) (R.idxS Tryd.underlying9 rfl rfl (by first | omega | (simp; done))) (by first | rfl | (congr 2; done) | (congr 2; omega))) rfl ?_; clear hA a; intro a hA
   refine S.valg (dj := 39) hA (by kernel_rfl) rfl (R.tt (R.eql rfl rfl) (by first | omega | (simp; done))) rfl ?_; clear hA a; intro a hA
   refine S.valg (dj := 34) hA (by kernel_rfl) rfl (R.pickT rfl rfl) rfl ?_; clear hA a; intro a hA
   refine S.val hA (R.pickF rfl rfl) rfl ?_; clear hA a; intro a hA
   refine S.done ?_
   replace hA : St 66 [(0, _), (1, _), (7, _), (45, _)] a := hA.sub ((.cons rfl (.cons rfl (.cons rfl (.cons rfl .nil)))))
   refine Ends.condT hA rfl ?_
   refine Ends.seq (Ends.region ?_)
   refine S.val hA (R.assign rfl) rfl ?_; clear hA a; intro a hA
   refine S.val hA (R.assign rfl) rfl ?_; clear hA a; intro a hA
   refine S.val hA (R.assign rfl) rfl ?_; clear hA a; intro a hA
   refine S.done ?_
   refine Ends.ret3 Tryd.func34 Tryd.results34 hA rfl rfl rfl ?_
   exact ⟨rfl, hM.nilL.below⟩
set_option maxRecDepth 100000 in
set_option maxHeartbeats 400000 in
theorem rread_big (s : ByteArray) (x k : Nat) (hx : x ≤ s.size) (hk : dgs s x = k) (hsz : s.size ≤ 9223372036854775807) (h : 18 < k) (h0 : byt s x ≠ 48) (w : World) :
  Calls Tryd.prog 34 #[.string s, .int .i64 ((x : Int))] w fun e w' => e = .returned (.tuple #[.int .i64 (0), .int .i64 (0), .int .i64 (5)]) ∧ Below w.heap.size w w' := by
 have hdg : ∀ j, j < k → dig s (x + j) := fun j hj => (dgs_spec s x).1 j (by omega)
 have hle := dgs_le s hx
 rw [hk] at hle
 have hM := Mem.start w
 refine Calls.of_ends (vs := [.string s, .int .i64 ((x : Int))]) Tryd.func34 rfl Tryd.ntmps34 rfl ?_
 intro a hA
 replace hA : St 66 [(0, _), (1, _)] a := hA
 refine Ends.seq (Ends.region ?_)
 refine S.val hA (R.assign rfl) rfl ?_; clear hA a; intro a hA
 refine S.val hA (R.assign rfl) rfl ?_; clear hA a; intro a hA
 refine S.val hA (R.assign rfl) rfl ?_; clear hA a; intro a hA
 refine S.done ?_
 refine Ends.seq (Ends.seq (Ends.region ?_))
 refine S.val hA (R.move rfl) rfl ?_; clear hA a; intro a hA
 refine S.val hA (R.ff (R.lss rfl rfl) (by first | omega | (simp; done))) rfl ?_; clear hA a; intro a hA
 refine S.val hA (R.move rfl) rfl ?_; clear hA a; intro a hA
 refine S.valg (dj := 12) hA (by kernel_rfl) rfl (R.move rfl) rfl ?_; clear hA a; intro a hA
 refine S.valg (dj := 12) hA (by kernel_rfl) rfl (R.move rfl) rfl ?_; clear hA a; intro a hA
 refine S.valg (dj := 12) hA (by kernel_rfl) rfl (R.lenStr Tryd.underlying9 rfl rfl) rfl ?_; clear hA a; intro a hA
 refine S.valg (dj := 12) hA (by kernel_rfl) rfl (R.ff (R.gtr rfl rfl) (by first | omega | (simp; done))) rfl ?_; clear hA a; intro a hA
 refine S.val hA (R.pickF rfl rfl) rfl ?_; clear hA a; intro a hA
 refine S.done ?_
 replace hA : St 66 [(0, _), (1, _), (17, _)] a := hA.sub ((.cons rfl (.cons rfl (.cons rfl .nil))))
 refine Ends.condF hA rfl ?_
 refine Ends.skip (Ends.seq (Ends.region ?_))
 refine S.val hA (R.move rfl) rfl ?_; clear hA a; intro a hA
 refine S.val hA (R.assign rfl) rfl ?_; clear hA a; intro a hA
 refine S.done ?_
 refine Ends.seq (Ends.block ?_)
 refine Ends.loop (σ := Nat) (fun q (a : Act) (wv : World) => St 66 [(0, .string s), (1, .int .i64 ((x : Int))), (7, .int .i64 ((x : Int) + (q : Int)))] a ∧ Mem w nof [] wv ∧ (x + q ≤ s.size) ∧ (∀ j, j < q → dig s (x + j))) (fun q => s.size - (x + q)) 0 ⟨hA.sub ((.cons rfl (.cons rfl (.cons rfl .nil)))), hM, (by omega), (fun j hj => absurd hj (Nat.not_lt_zero j))⟩ ?_
 clear hA hM a
 rintro q a w1 ⟨hA, hM, hq, hd⟩ hNext
 refine Ends.seq (Ends.seq ?_)
 by_cases hs1 : dig s (x + q)
 ·
  have hdq := hs1
  have hdq1 := hdq.1
  have hdq2 := hdq.2
  refine Ends.region ?_
  refine S.val hA (R.move rfl) rfl ?_; clear hA a; intro a hA
  refine S.val hA (R.move rfl) rfl ?_; clear hA a; intro a hA
  refine S.val hA (R.lenStr Tryd.underlying9 rfl rfl) rfl ?_; clear hA a; intro a hA
  refine S.val hA (R.tt (R.lss rfl rfl) (by first | omega | (simp; done))) rfl ?_; clear hA a; intro a hA
  refine S.val hA (R.move rfl) rfl ?_; clear hA a; intro a hA
  refine S.valg (dj := 23) hA (by kernel_rfl) rfl (R.move rfl) rfl ?_; clear hA a; intro a hA
  refine S.valg (dj := 23) hA (by kernel_rfl) rfl (R.move rfl) rfl ?_; clear hA a; intro a hA
  refine S.valg (dj := 23) hA (by kernel_rfl) rfl (R.to (v := .int .u8 (byt s (x + q))) (R.idxS Tryd.underlying9 rfl rfl (by first | omega | (simp; done))) (by first | rfl | (congr 2; done) | (congr 2; omega))) rfl ?_; clear hA a; intro a hA
  refine S.callg (dj := 23) hA (by kernel_rfl) rfl (R.callF Tryd.func39 rfl rfl rfl) rfl ((rdig_yes (byt s (x + q)) hdq2 _)) ?_; clear hA a
  rintro e w2 ⟨rfl, hb⟩
  replace hM := hM.callB hb; clear hb
  refine ⟨.bool true, rfl, fun a hA => ?_⟩
  refine S.val hA (R.pickT rfl rfl) rfl ?_; clear hA a; intro a hA
  refine S.done ?_
  replace hA : St 66 [(0, _), (1, _), (7, _), (28, _)] a := hA.sub ((.cons rfl (.cons rfl (.cons rfl (.cons rfl .nil)))))
  refine Ends.condT hA rfl ?_
  refine Ends.skip (Ends.block (Ends.region ?_))
  refine S.val hA (R.move rfl) rfl ?_; clear hA a; intro a hA
  refine S.val hA (R.addI rfl rfl (r := ((x : Int) + (q : Int)) + 1) rfl (by first | omega | (simp; done))) rfl ?_; clear hA a; intro a hA
  refine S.val hA (R.assign rfl) rfl ?_; clear hA a; intro a hA
  refine S.done ?_
  refine Ends.inBlock ?_
  have hdl := (hs1).1
  exact hNext ((q + 1)) _ _ ((by show s.size - (x + (q + 1)) < s.size - (x + q); omega)) ⟨hA.sub ((.cons rfl (.cons rfl (.cons rfl .nil)))), hM, (by omega), (fun j hj => by rcases Nat.lt_or_ge j q with g | g; exact hd j g; have e : j = q := (by omega); exact e ▸ hs1)⟩
 ·
  have hkq : q = k := by rw [← hk]; exact (dgs_uniq hd hs1).symm
  by_cases hs2 : x + q < s.size
  ·
   refine Ends.region ?_
   refine S.val hA (R.move rfl) rfl ?_; clear hA a; intro a hA
   refine S.val hA (R.move rfl) rfl ?_; clear hA a; intro a hA
   refine S.val hA (R.lenStr Tryd.underlying9 rfl rfl) rfl ?_; clear hA a; intro a hA
   refine S.val hA (R.tt (R.lss rfl rfl) (by first | omega | (simp; done))) rfl ?_; clear hA a; intro a hA
   refine S.val hA (R.move rfl) rfl ?_; clear hA a; intro a hA
   refine S.valg (dj := 23) hA (by kernel_rfl) rfl (R.move rfl) rfl ?_; clear hA a; intro a hA
   refine S.valg (dj := 23) hA (by kernel_rfl) rfl (R.move rfl) rfl ?_; clear hA a; intro a hA
   refine S.valg (dj := 23) hA (by kernel_rfl) rfl (R.to (v := .int .u8 (byt s (x + q))) (R.idxS Tryd.underlying9 rfl rfl (by first | omega | (simp; done))) (by first | rfl | (congr 2; done) | (congr 2; omega))) rfl ?_; clear hA a; intro a hA
   refine S.callg (dj := 23) hA (by kernel_rfl) rfl (R.callF Tryd.func39 rfl rfl rfl) rfl ((rdig_no (byt s (x + q)) (fun h => hs1 ⟨hs2, h⟩) _)) ?_; clear hA a
   rintro e w3 ⟨rfl, hb⟩
   replace hM := hM.callB hb; clear hb
   refine ⟨.bool false, rfl, fun a hA => ?_⟩
   refine S.val hA (R.pickT rfl rfl) rfl ?_; clear hA a; intro a hA
   refine S.done ?_
   replace hA : St 66 [(0, _), (1, _), (7, _), (28, _)] a := hA.sub ((.cons rfl (.cons rfl (.cons rfl (.cons rfl .nil)))))
   refine Ends.condF hA rfl ?_
   refine Ends.exit rfl ?_
   refine Ends.seq (Ends.seq (Ends.region ?_))
   refine S.val hA (R.move rfl) rfl ?_; clear hA a; intro a hA
   refine S.val hA (R.move rfl) rfl ?_; clear hA a; intro a hA
   refine S.val hA (R.ff (R.eql rfl rfl) (by first | omega | (simp; done))) rfl ?_; clear hA a; intro a hA
   refine S.val hA (R.move rfl) rfl ?_; clear hA a; intro a hA
   refine S.valg (dj := 34) hA (by kernel_rfl) rfl (R.move rfl) rfl ?_; clear hA a; intro a hA
   refine S.valg (dj := 34) hA (by kernel_rfl) rfl (R.move rfl) rfl ?_; clear hA a; intro a hA
   refine S.valg (dj := 34) hA (by kernel_rfl) rfl (R.subI rfl rfl (r := ((x : Int) + (q : Int)) - ((x : Int))) rfl (by first | omega | (simp; done))) rfl ?_; clear hA a; intro a hA
   refine S.valg (dj := 34) hA (by kernel_rfl) rfl (R.tt (R.gtr rfl rfl) (by first | omega | (simp; done))) rfl ?_; clear hA a; intro a hA
   refine S.valg (dj := 34) hA (by kernel_rfl) rfl (R.move rfl) rfl ?_; clear hA a; intro a hA
   refine S.valg (dj := 39) hA (by kernel_rfl) rfl (R.move rfl) rfl ?_; clear hA a; intro a hA
   refine S.valg (dj := 39) hA (by kernel_rfl) rfl (R.move rfl) rfl ?_; clear hA a; intro a hA
   refine S.valg (dj := 39) hA (by kernel_rfl) rfl (R.to (v := .int .u8 (byt s x)) (R.idxS Tryd.underlying9 rfl rfl (by first | omega | (simp; done))) (by first | rfl | (congr 2; done) | (congr 2; omega))) rfl ?_; clear hA a; intro a hA
   refine S.valg (dj := 39) hA (by kernel_rfl) rfl (R.ff (R.eql rfl rfl) (by first | omega | (simp; done))) rfl ?_; clear hA a; intro a hA
   refine S.valg (dj := 34) hA (by kernel_rfl) rfl (R.pickT rfl rfl) rfl ?_; clear hA a; intro a hA
   refine S.val hA (R.pickF rfl rfl) rfl ?_; clear hA a; intro a hA
   refine S.done ?_
   replace hA : St 66 [(0, _), (1, _), (7, _), (45, _)] a := hA.sub ((.cons rfl (.cons rfl (.cons rfl (.cons rfl .nil)))))
   refine Ends.condF hA rfl ?_
   refine Ends.skip (Ends.seq (Ends.seq (Ends.region ?_)))
   refine S.val hA (R.move rfl) rfl ?_; clear hA a; intro a hA
   refine S.val hA (R.move rfl) rfl ?_; clear hA a; intro a hA
   refine S.val hA (R.subI rfl rfl (r := ((x : Int) + (q : Int)) - ((x : Int))) rfl (by first | omega | (simp; done))) rfl ?_; clear hA a; intro a hA
   refine S.val hA (R.tt (R.gtr rfl rfl) (by first | omega | (simp; done))) rfl ?_; clear hA a; intro a hA
   refine S.done ?_
   replace hA : St 66 [(0, _), (1, _), (7, _), (49, _)] a := hA.sub ((.cons rfl (.cons rfl (.cons rfl (.cons rfl .nil)))))
   refine Ends.condT hA rfl ?_
   refine Ends.seq (Ends.region ?_)
   refine S.val hA (R.assign rfl) rfl ?_; clear hA a; intro a hA
   refine S.val hA (R.assign rfl) rfl ?_; clear hA a; intro a hA
   refine S.val hA (R.assign rfl) rfl ?_; clear hA a; intro a hA
   refine S.done ?_
   refine Ends.ret3 Tryd.func34 Tryd.results34 hA rfl rfl rfl ?_
   exact ⟨rfl, hM.nilL.below⟩
  ·
   refine Ends.region ?_
   refine S.val hA (R.move rfl) rfl ?_; clear hA a; intro a hA
   refine S.val hA (R.move rfl) rfl ?_; clear hA a; intro a hA
   refine S.val hA (R.lenStr Tryd.underlying9 rfl rfl) rfl ?_; clear hA a; intro a hA
   refine S.val hA (R.ff (R.lss rfl rfl) (by first | omega | (simp; done))) rfl ?_; clear hA a; intro a hA
   refine S.val hA (R.move rfl) rfl ?_; clear hA a; intro a hA
   refine S.no (dj := 23) hA (by kernel_rfl) rfl rfl rfl ?_; clear hA a; intro a hA
   refine S.no (dj := 23) hA (by kernel_rfl) rfl rfl rfl ?_; clear hA a; intro a hA
   refine S.no (dj := 23) hA (by kernel_rfl) rfl rfl rfl ?_; clear hA a; intro a hA
   refine S.no (dj := 23) hA (by kernel_rfl) rfl rfl rfl ?_; clear hA a; intro a hA
   refine S.val hA (R.pickF rfl rfl) rfl ?_; clear hA a; intro a hA
   refine S.done ?_
   replace hA : St 66 [(0, _), (1, _), (7, _), (28, _)] a := hA.sub ((.cons rfl (.cons rfl (.cons rfl (.cons rfl .nil)))))
   refine Ends.condF hA rfl ?_
   refine Ends.exit rfl ?_
   refine Ends.seq (Ends.seq (Ends.region ?_))
   refine S.val hA (R.move rfl) rfl ?_; clear hA a; intro a hA
   refine S.val hA (R.move rfl) rfl ?_; clear hA a; intro a hA
   refine S.val hA (R.ff (R.eql rfl rfl) (by first | omega | (simp; done))) rfl ?_; clear hA a; intro a hA
   refine S.val hA (R.move rfl) rfl ?_; clear hA a; intro a hA
   refine S.valg (dj := 34) hA (by kernel_rfl) rfl (R.move rfl) rfl ?_; clear hA a; intro a hA
   refine S.valg (dj := 34) hA (by kernel_rfl) rfl (R.move rfl) rfl ?_; clear hA a; intro a hA
   refine S.valg (dj := 34) hA (by kernel_rfl) rfl (R.subI rfl rfl (r := ((x : Int) + (q : Int)) - ((x : Int))) rfl (by first | omega | (simp; done))) rfl ?_; clear hA a; intro a hA
   refine S.valg (dj := 34) hA (by kernel_rfl) rfl (R.tt (R.gtr rfl rfl) (by first | omega | (simp; done))) rfl ?_; clear hA a; intro a hA
   refine S.valg (dj := 34) hA (by kernel_rfl) rfl (R.move rfl) rfl ?_; clear hA a; intro a hA
   refine S.valg (dj := 39) hA (by kernel_rfl) rfl (R.move rfl) rfl ?_; clear hA a; intro a hA
   refine S.valg (dj := 39) hA (by kernel_rfl) rfl (R.move rfl) rfl ?_; clear hA a; intro a hA
   refine S.valg (dj := 39) hA (by kernel_rfl) rfl (R.to (v := .int .u8 (byt s x)) (R.idxS Tryd.underlying9 rfl rfl (by first | omega | (simp; done))) (by first | rfl | (congr 2; done) | (congr 2; omega))) rfl ?_; clear hA a; intro a hA
   refine S.valg (dj := 39) hA (by kernel_rfl) rfl (R.ff (R.eql rfl rfl) (by first | omega | (simp; done))) rfl ?_; clear hA a; intro a hA
   refine S.valg (dj := 34) hA (by kernel_rfl) rfl (R.pickT rfl rfl) rfl ?_; clear hA a; intro a hA
   refine S.val hA (R.pickF rfl rfl) rfl ?_; clear hA a; intro a hA
   refine S.done ?_
   replace hA : St 66 [(0, _), (1, _), (7, _), (45, _)] a := hA.sub ((.cons rfl (.cons rfl (.cons rfl (.cons rfl .nil)))))
   refine Ends.condF hA rfl ?_
   refine Ends.skip (Ends.seq (Ends.seq (Ends.region ?_)))
   refine S.val hA (R.move rfl) rfl ?_; clear hA a; intro a hA
   refine S.val hA (R.move rfl) rfl ?_; clear hA a; intro a hA
   refine S.val hA (R.subI rfl rfl (r := ((x : Int) + (q : Int)) - ((x : Int))) rfl (by first | omega | (simp; done))) rfl ?_; clear hA a; intro a hA
   refine S.val hA (R.tt (R.gtr rfl rfl) (by first | omega | (simp; done))) rfl ?_; clear hA a; intro a hA
   refine S.done ?_
   replace hA : St 66 [(0, _), (1, _), (7, _), (49, _)] a := hA.sub ((.cons rfl (.cons rfl (.cons rfl (.cons rfl .nil)))))
   refine Ends.condT hA rfl ?_
   refine Ends.seq (Ends.region ?_)
   refine S.val hA (R.assign rfl) rfl ?_; clear hA a; intro a hA
   refine S.val hA (R.assign rfl) rfl ?_; clear hA a; intro a hA
   refine S.val hA (R.assign rfl) rfl ?_; clear hA a; intro a hA
   refine S.done ?_
   refine Ends.ret3 Tryd.func34 Tryd.results34 hA rfl rfl rfl ?_
   exact ⟨rfl, hM.nilL.below⟩
set_option maxRecDepth 100000 in
set_option maxHeartbeats 400000 in
theorem rread_num1 (s : ByteArray) (x k : Nat) (hx : x ≤ s.size) (hk : dgs s x = k) (hsz : s.size ≤ 9223372036854775807) (h : k = 1) (w : World) :
  Calls Tryd.prog 34 #[.string s, .int .i64 ((x : Int))] w fun e w' => e = .returned (.tuple #[.int .i64 (numv s x k), .int .i64 (x + k), .int .i64 (0)]) ∧ Below w.heap.size w w' := by
 have hdg : ∀ j, j < k → dig s (x + j) := fun j hj => (dgs_spec s x).1 j (by omega)
 have hle := dgs_le s hx
 rw [hk] at hle
 have hM := Mem.start w
 refine Calls.of_ends (vs := [.string s, .int .i64 ((x : Int))]) Tryd.func34 rfl Tryd.ntmps34 rfl ?_
 intro a hA
 replace hA : St 66 [(0, _), (1, _)] a := hA
 refine Ends.seq (Ends.region ?_)
 refine S.val hA (R.assign rfl) rfl ?_; clear hA a; intro a hA
 refine S.val hA (R.assign rfl) rfl ?_; clear hA a; intro a hA
 refine S.val hA (R.assign rfl) rfl ?_; clear hA a; intro a hA
 refine S.done ?_
 refine Ends.seq (Ends.seq (Ends.region ?_))
 refine S.val hA (R.move rfl) rfl ?_; clear hA a; intro a hA
 refine S.val hA (R.ff (R.lss rfl rfl) (by first | omega | (simp; done))) rfl ?_; clear hA a; intro a hA
 refine S.val hA (R.move rfl) rfl ?_; clear hA a; intro a hA
 refine S.valg (dj := 12) hA (by kernel_rfl) rfl (R.move rfl) rfl ?_; clear hA a; intro a hA
 refine S.valg (dj := 12) hA (by kernel_rfl) rfl (R.move rfl) rfl ?_; clear hA a; intro a hA
 refine S.valg (dj := 12) hA (by kernel_rfl) rfl (R.lenStr Tryd.underlying9 rfl rfl) rfl ?_; clear hA a; intro a hA
 refine S.valg (dj := 12) hA (by kernel_rfl) rfl (R.ff (R.gtr rfl rfl) (by first | omega | (simp; done))) rfl ?_; clear hA a; intro a hA
 refine S.val hA (R.pickF rfl rfl) rfl ?_; clear hA a; intro a hA
 refine S.done ?_
 replace hA : St 66 [(0, _), (1, _), (17, _)] a := hA.sub ((.cons rfl (.cons rfl (.cons rfl .nil))))
 refine Ends.condF hA rfl ?_
 refine Ends.skip (Ends.seq (Ends.region ?_))
 refine S.val hA (R.move rfl) rfl ?_; clear hA a; intro a hA
 refine S.val hA (R.assign rfl) rfl ?_; clear hA a; intro a hA
 refine S.done ?_
 refine Ends.seq (Ends.block ?_)
 refine Ends.loop (σ := Nat) (fun q (a : Act) (wv : World) => St 66 [(0, .string s), (1, .int .i64 ((x : Int))), (7, .int .i64 ((x : Int) + (q : Int)))] a ∧ Mem w nof [] wv ∧ (x + q ≤ s.size) ∧ (∀ j, j < q → dig s (x + j))) (fun q => s.size - (x + q)) 0 ⟨hA.sub ((.cons rfl (.cons rfl (.cons rfl .nil)))), hM, (by omega), (fun j hj => absurd hj (Nat.not_lt_zero j))⟩ ?_
 clear hA hM a
 rintro q a w1 ⟨hA, hM, hq, hd⟩ hNext
 refine Ends.seq (Ends.seq ?_)
 by_cases hs1 : dig s (x + q)
 ·
  have hdq := hs1
  have hdq1 := hdq.1
  have hdq2 := hdq.2
  refine Ends.region ?_
  refine S.val hA (R.move rfl) rfl ?_; clear hA a; intro a hA
  refine S.val hA (R.move rfl) rfl ?_; clear hA a; intro a hA
  refine S.val hA (R.lenStr Tryd.underlying9 rfl rfl) rfl ?_; clear hA a; intro a hA
  refine S.val hA (R.tt (R.lss rfl rfl) (by first | omega | (simp; done))) rfl ?_; clear hA a; intro a hA
  refine S.val hA (R.move rfl) rfl ?_; clear hA a; intro a hA
  refine S.valg (dj := 23) hA (by kernel_rfl) rfl (R.move rfl) rfl ?_; clear hA a; intro a hA
  refine S.valg (dj := 23) hA (by kernel_rfl) rfl (R.move rfl) rfl ?_; clear hA a; intro a hA
  refine S.valg (dj := 23) hA (by kernel_rfl) rfl (R.to (v := .int .u8 (byt s (x + q))) (R.idxS Tryd.underlying9 rfl rfl (by first | omega | (simp; done))) (by first | rfl | (congr 2; done) | (congr 2; omega))) rfl ?_; clear hA a; intro a hA
  refine S.callg (dj := 23) hA (by kernel_rfl) rfl (R.callF Tryd.func39 rfl rfl rfl) rfl ((rdig_yes (byt s (x + q)) hdq2 _)) ?_; clear hA a
  rintro e w2 ⟨rfl, hb⟩
  replace hM := hM.callB hb; clear hb
  refine ⟨.bool true, rfl, fun a hA => ?_⟩
  refine S.val hA (R.pickT rfl rfl) rfl ?_; clear hA a; intro a hA
  refine S.done ?_
  replace hA : St 66 [(0, _), (1, _), (7, _), (28, _)] a := hA.sub ((.cons rfl (.cons rfl (.cons rfl (.cons rfl .nil)))))
  refine Ends.condT hA rfl ?_
  refine Ends.skip (Ends.block (Ends.region ?_))
  refine S.val hA (R.move rfl) rfl ?_; clear hA a; intro a hA
  refine S.val hA (R.addI rfl rfl (r := ((x : Int) + (q : Int)) + 1) rfl (by first | omega | (simp; done))) rfl ?_; clear hA a; intro a hA
  refine S.val hA (R.assign rfl) rfl ?_; clear hA a; intro a hA
  refine S.done ?_
  refine Ends.inBlock ?_
  have hdl := (hs1).1
  exact hNext ((q + 1)) _ _ ((by show s.size - (x + (q + 1)) < s.size - (x + q); omega)) ⟨hA.sub ((.cons rfl (.cons rfl (.cons rfl .nil)))), hM, (by omega), (fun j hj => by rcases Nat.lt_or_ge j q with g | g; exact hd j g; have e : j = q := (by omega); exact e ▸ hs1)⟩
 ·
  have hkq : q = k := by rw [← hk]; exact (dgs_uniq hd hs1).symm
  by_cases hs2 : x + q < s.size
  ·
   refine Ends.region ?_
   refine S.val hA (R.move rfl) rfl ?_; clear hA a; intro a hA
   refine S.val hA (R.move rfl) rfl ?_; clear hA a; intro a hA
   refine S.val hA (R.lenStr Tryd.underlying9 rfl rfl) rfl ?_; clear hA a; intro a hA
   refine S.val hA (R.tt (R.lss rfl rfl) (by first | omega | (simp; done))) rfl ?_; clear hA a; intro a hA
   refine S.val hA (R.move rfl) rfl ?_; clear hA a; intro a hA
   refine S.valg (dj := 23) hA (by kernel_rfl) rfl (R.move rfl) rfl ?_; clear hA a; intro a hA
   refine S.valg (dj := 23) hA (by kernel_rfl) rfl (R.move rfl) rfl ?_; clear hA a; intro a hA
   refine S.valg (dj := 23) hA (by kernel_rfl) rfl (R.to (v := .int .u8 (byt s (x + q))) (R.idxS Tryd.underlying9 rfl rfl (by first | omega | (simp; done))) (by first | rfl | (congr 2; done) | (congr 2; omega))) rfl ?_; clear hA a; intro a hA
   refine S.callg (dj := 23) hA (by kernel_rfl) rfl (R.callF Tryd.func39 rfl rfl rfl) rfl ((rdig_no (byt s (x + q)) (fun h => hs1 ⟨hs2, h⟩) _)) ?_; clear hA a
   rintro e w3 ⟨rfl, hb⟩
   replace hM := hM.callB hb; clear hb
   refine ⟨.bool false, rfl, fun a hA => ?_⟩
   refine S.val hA (R.pickT rfl rfl) rfl ?_; clear hA a; intro a hA
   refine S.done ?_
   replace hA : St 66 [(0, _), (1, _), (7, _), (28, _)] a := hA.sub ((.cons rfl (.cons rfl (.cons rfl (.cons rfl .nil)))))
   refine Ends.condF hA rfl ?_
   refine Ends.exit rfl ?_
   refine Ends.seq (Ends.seq (Ends.region ?_))
   refine S.val hA (R.move rfl) rfl ?_; clear hA a; intro a hA
   refine S.val hA (R.move rfl) rfl ?_; clear hA a; intro a hA
   refine S.val hA (R.ff (R.eql rfl rfl) (by first | omega | (simp; done))) rfl ?_; clear hA a; intro a hA
   refine S.val hA (R.move rfl) rfl ?_; clear hA a; intro a hA
   refine S.valg (dj := 34) hA (by kernel_rfl) rfl (R.move rfl) rfl ?_; clear hA a; intro a hA
   refine S.valg (dj := 34) hA (by kernel_rfl) rfl (R.move rfl) rfl ?_; clear hA a; intro a hA
   refine S.valg (dj := 34) hA (by kernel_rfl) rfl (R.subI rfl rfl (r := ((x : Int) + (q : Int)) - ((x : Int))) rfl (by first | omega | (simp; done))) rfl ?_; clear hA a; intro a hA
   refine S.valg (dj := 34) hA (by kernel_rfl) rfl (R.ff (R.gtr rfl rfl) (by first | omega | (simp; done))) rfl ?_; clear hA a; intro a hA
   refine S.valg (dj := 34) hA (by kernel_rfl) rfl (R.move rfl) rfl ?_; clear hA a; intro a hA
   refine S.no (dj := 39) hA (by kernel_rfl) rfl rfl rfl ?_; clear hA a; intro a hA
   refine S.no (dj := 39) hA (by kernel_rfl) rfl rfl rfl ?_; clear hA a; intro a hA
   refine S.no (dj := 39) hA (by kernel_rfl) rfl rfl rfl ?_; clear hA a; intro a hA
   refine S.no (dj := 39) hA (by kernel_rfl) rfl rfl rfl ?_; clear hA a; intro a hA
   refine S.valg (dj := 34) hA (by kernel_rfl) rfl (R.pickF rfl rfl) rfl ?_; clear hA a; intro a hA
   refine S.val hA (R.pickF rfl rfl) rfl ?_; clear hA a; intro a hA
   refine S.done ?_
   replace hA : St 66 [(0, _), (1, _), (7, _), (45, _)] a := hA.sub ((.cons rfl (.cons rfl (.cons rfl (.cons rfl .nil)))))
   refine Ends.condF hA rfl ?_
   refine Ends.skip (Ends.seq (Ends.seq (Ends.region ?_)))
   refine S.val hA (R.move rfl) rfl ?_; clear hA a; intro a hA
   refine S.val hA (R.move rfl) rfl ?_; clear hA a; intro a hA
   refine S.val hA (R.subI rfl rfl (r := ((x : Int) + (q : Int)) - ((x : Int))) rfl (by first | omega | (simp; done))) rfl ?_; clear hA a; intro a hA
   refine S.val hA (R.ff (R.gtr rfl rfl) (by first | omega | (simp; done))) rfl ?_; clear hA a; intro a hA
   refine S.done ?_
   replace hA : St 66 [(0, _), (1, _), (7, _), (49, _)] a := hA.sub ((.cons rfl (.cons rfl (.cons rfl (.cons rfl .nil)))))
   refine Ends.condF hA rfl ?_
   refine Ends.skip (Ends.seq (Ends.region ?_))
   refine S.val hA (R.assign rfl) rfl ?_; clear hA a; intro a hA
   refine S.done ?_
   refine Ends.seq (Ends.seq (Ends.region ?_))
   refine S.val hA (R.move rfl) rfl ?_; clear hA a; intro a hA
   refine S.val hA (R.assign rfl) rfl ?_; clear hA a; intro a hA
   refine S.done ?_
   refine Ends.block ?_
   refine Ends.loop (σ := Nat) (fun j (a : Act) (wv : World) => St 66 [(0, .string s), (7, .int .i64 ((x : Int) + (q : Int))), (8, .int .i64 (numv s x j)), (9, .int .i64 ((x : Int) + (j : Int)))] a ∧ Mem w nof [] wv ∧ (j ≤ k)) (fun j => k - j) 0 ⟨hA.sub ((.cons rfl (.cons rfl (.cons rfl (.cons rfl .nil))))), hM, (Nat.zero_le _)⟩ ?_
   clear hA hM a
   rintro j a w4 ⟨hA, hM, hj⟩ hNext1
   refine Ends.seq (Ends.seq (Ends.region ?_))
   refine S.val hA (R.move rfl) rfl ?_; clear hA a; intro a hA
   refine S.val hA (R.move rfl) rfl ?_; clear hA a; intro a hA
   refine S.val hA (R.lss rfl rfl) rfl ?_; clear hA a; intro a hA
   refine S.done ?_
   refine Ends.ite hA rfl (fun hc3 => ?_) (fun hc3 => ?_)
   ·
    refine Ends.skip (Ends.seq (Ends.block ?_))
    have hnv := numv_lt (s := s) (x := x) (k := j) (fun i hi => hdg i (by omega)) (by omega)
    have hdj := (hdg j (by omega)).2
    have hbb := byt_bd s (x + j)
    refine Ends.region ?_
    refine S.val hA (R.move rfl) rfl ?_; clear hA a; intro a hA
    refine S.val hA (R.mulI rfl rfl (r := (numv s x j) * 10) rfl (by first | omega | (simp; done))) rfl ?_; clear hA a; intro a hA
    refine S.val hA (R.move rfl) rfl ?_; clear hA a; intro a hA
    refine S.val hA (R.move rfl) rfl ?_; clear hA a; intro a hA
    refine S.val hA (R.to (v := .int .u8 (byt s (x + j))) (R.idxS Tryd.underlying9 rfl rfl (by first | omega | (simp; done))) (by first | rfl | (congr 2; done) | (congr 2; omega))) rfl ?_; clear hA a; intro a hA
    refine S.val hA (R.to (v := .int .u8 (byt s (x + j) - 48)) (R.sub rfl rfl) (congrArg (Value.int .u8) (u8_wrap (by omega)))) rfl ?_; clear hA a; intro a hA
    refine S.val hA (R.to (v := .int .i64 (byt s (x + j) - 48)) (R.conv Tryd.underlying3 Tryd.underlying5 rfl) (congrArg (Value.int .i64) (i64_wrap (by omega)))) rfl ?_; clear hA a; intro a hA
    refine S.val hA (R.addI rfl rfl (r := ((numv s x j) * 10) + (byt s (x + j) - 48)) rfl (by first | omega | (simp; done))) rfl ?_; clear hA a; intro a hA
    refine S.val hA (R.assign rfl) rfl ?_; clear hA a; intro a hA
    refine S.done ?_
    replace hA : St 66 [(0, _), (7, _), (8, _), (9, _)] a := hA.sub ((.cons rfl (.cons rfl (.cons rfl (.cons rfl .nil)))))
    refine Ends.inBlock (Ends.region ?_)
    refine S.val hA (R.move rfl) rfl ?_; clear hA a; intro a hA
    refine S.val hA (R.addI rfl rfl (r := ((x : Int) + (j : Int)) + 1) rfl (by first | omega | (simp; done))) rfl ?_; clear hA a; intro a hA
    refine S.val hA (R.assign rfl) rfl ?_; clear hA a; intro a hA
    refine S.done ?_
    exact hNext1 ((j + 1)) _ _ ((by show k - (j + 1) < k - j; omega)) ⟨hA.sub ((.cons rfl (.cons rfl (.cons rfl (.cons rfl .nil))))), hM, (by omega)⟩
   ·
    refine Ends.exit rfl ?_
    replace hA : St 66 [(7, _), (8, _)] a := hA.sub ((.cons rfl (.cons rfl .nil)))
    refine Ends.seq (Ends.region ?_)
    refine S.val hA (R.move rfl) rfl ?_; clear hA a; intro a hA
    refine S.val hA (R.move rfl) rfl ?_; clear hA a; intro a hA
    refine S.val hA (R.assign rfl) rfl ?_; clear hA a; intro a hA
    refine S.val hA (R.assign rfl) rfl ?_; clear hA a; intro a hA
    refine S.val hA (R.assign rfl) rfl ?_; clear hA a; intro a hA
    refine S.done ?_
    replace hA : St 66 [(4, _), (5, _), (6, _)] a := hA.sub ((.cons rfl (.cons rfl (.cons rfl .nil))))
    refine Ends.ret3 Tryd.func34 Tryd.results34 hA rfl rfl rfl ?_
    have hje : j = k := by omega
    rw [hkq, hje]
    exact ⟨rfl, hM.nilL.below⟩
  ·
   refine Ends.region ?_
   refine S.val hA (R.move rfl) rfl ?_; clear hA a; intro a hA
   refine S.val hA (R.move rfl) rfl ?_; clear hA a; intro a hA
   refine S.val hA (R.lenStr Tryd.underlying9 rfl rfl) rfl ?_; clear hA a; intro a hA
   refine S.val hA (R.ff (R.lss rfl rfl) (by first | omega | (simp; done))) rfl ?_; clear hA a; intro a hA
   refine S.val hA (R.move rfl) rfl ?_; clear hA a; intro a hA
   refine S.no (dj := 23) hA (by kernel_rfl) rfl rfl rfl ?_; clear hA a; intro a hA
   refine S.no (dj := 23) hA (by kernel_rfl) rfl rfl rfl ?_; clear hA a; intro a hA
   refine S.no (dj := 23) hA (by kernel_rfl) rfl rfl rfl ?_; clear hA a; intro a hA
   refine S.no (dj := 23) hA (by kernel_rfl) rfl rfl rfl ?_; clear hA a; intro a hA
   refine S.val hA (R.pickF rfl rfl) rfl ?_; clear hA a; intro a hA
   refine S.done ?_
   replace hA : St 66 [(0, _), (1, _), (7, _), (28, _)] a := hA.sub ((.cons rfl (.cons rfl (.cons rfl (.cons rfl .nil)))))
   refine Ends.condF hA rfl ?_
   refine Ends.exit rfl ?_
   refine Ends.seq (Ends.seq (Ends.region ?_))
   refine S.val hA (R.move rfl) rfl ?_; clear hA a; intro a hA
   refine S.val hA (R.move rfl) rfl ?_; clear hA a; intro a hA
   refine S.val hA (R.ff (R.eql rfl rfl) (by first | omega | (simp; done))) rfl ?_; clear hA a; intro a hA
   refine S.val hA (R.move rfl) rfl ?_; clear hA a; intro a hA
   refine S.valg (dj := 34) hA (by kernel_rfl) rfl (R.move rfl) rfl ?_; clear hA a; intro a hA
   refine S.valg (dj := 34) hA (by kernel_rfl) rfl (R.move rfl) rfl ?_; clear hA a; intro a hA
   refine S.valg (dj := 34) hA (by kernel_rfl) rfl (R.subI rfl rfl (r := ((x : Int) + (q : Int)) - ((x : Int))) rfl (by first | omega | (simp; done))) rfl ?_; clear hA a; intro a hA
   refine S.valg (dj := 34) hA (by kernel_rfl) rfl (R.ff (R.gtr rfl rfl) (by first | omega | (simp; done))) rfl ?_; clear hA a; intro a hA
   refine S.valg (dj := 34) hA (by kernel_rfl) rfl (R.move rfl) rfl ?_; clear hA a; intro a hA
   refine S.no (dj := 39) hA (by kernel_rfl) rfl rfl rfl ?_; clear hA a; intro a hA
   refine S.no (dj := 39) hA (by kernel_rfl) rfl rfl rfl ?_; clear hA a; intro a hA
   refine S.no (dj := 39) hA (by kernel_rfl) rfl rfl rfl ?_; clear hA a; intro a hA
   refine S.no (dj := 39) hA (by kernel_rfl) rfl rfl rfl ?_; clear hA a; intro a hA
   refine S.valg (dj := 34) hA (by kernel_rfl) rfl (R.pickF rfl rfl) rfl ?_; clear hA a; intro a hA
   refine S.val hA (R.pickF rfl rfl) rfl ?_; clear hA a; intro a hA
   refine S.done ?_
   replace hA : St 66 [(0, _), (1, _), (7, _), (45, _)] a := hA.sub ((.cons rfl (.cons rfl (.cons rfl (.cons rfl .nil)))))
   refine Ends.condF hA rfl ?_
   refine Ends.skip (Ends.seq (Ends.seq (Ends.region ?_)))
   refine S.val hA (R.move rfl) rfl ?_; clear hA a; intro a hA
   refine S.val hA (R.move rfl) rfl ?_; clear hA a; intro a hA
   refine S.val hA (R.subI rfl rfl (r := ((x : Int) + (q : Int)) - ((x : Int))) rfl (by first | omega | (simp; done))) rfl ?_; clear hA a; intro a hA
   refine S.val hA (R.ff (R.gtr rfl rfl) (by first | omega | (simp; done))) rfl ?_; clear hA a; intro a hA
   refine S.done ?_
   replace hA : St 66 [(0, _), (1, _), (7, _), (49, _)] a := hA.sub ((.cons rfl (.cons rfl (.cons rfl (.cons rfl .nil)))))
   refine Ends.condF hA rfl ?_
   refine Ends.skip (Ends.seq (Ends.region ?_))
   refine S.val hA (R.assign rfl) rfl ?_; clear hA a; intro a hA
   refine S.done ?_
   refine Ends.seq (Ends.seq (Ends.region ?_))
   refine S.val hA (R.move rfl) rfl ?_; clear hA a; intro a hA
   refine S.val hA (R.assign rfl) rfl ?_; clear hA a; intro a hA
   refine S.done ?_
   refine Ends.block ?_
   refine Ends.loop (σ := Nat) (fun j (a : Act) (wv : World) => St 66 [(0, .string s), (7, .int .i64 ((x : Int) + (q : Int))), (8, .int .i64 (numv s x j)), (9, .int .i64 ((x : Int) + (j : Int)))] a ∧ Mem w nof [] wv ∧ (j ≤ k)) (fun j => k - j) 0 ⟨hA.sub ((.cons rfl (.cons rfl (.cons rfl (.cons rfl .nil))))), hM, (Nat.zero_le _)⟩ ?_
   clear hA hM a
   rintro j a w5 ⟨hA, hM, hj⟩ hNext1
   refine Ends.seq (Ends.seq (Ends.region ?_))
   refine S.val hA (R.move rfl) rfl ?_; clear hA a; intro a hA
   refine S.val hA (R.move rfl) rfl ?_; clear hA a; intro a hA
   refine S.val hA (R.lss rfl rfl) rfl ?_; clear hA a; intro a hA
   refine S.done ?_
   refine Ends.ite hA rfl (fun hc4 => ?_) (fun hc4 => ?_)
   ·
    refine Ends.skip (Ends.seq (Ends.block ?_))
    have hnv := numv_lt (s := s) (x := x) (k := j) (fun i hi => hdg i (by omega)) (by omega)
    have hdj := (hdg j (by omega)).2
    have hbb := byt_bd s (x + j)
    refine Ends.region ?_
    refine S.val hA (R.move rfl) rfl ?_; clear hA a; intro a hA
    refine S.val hA (R.mulI rfl rfl (r := (numv s x j) * 10) rfl (by first | omega | (simp; done))) rfl ?_; clear hA a; intro a hA
    refine S.val hA (R.move rfl) rfl ?_; clear hA a; intro a hA
    refine S.val hA (R.move rfl) rfl ?_; clear hA a; intro a hA
    refine S.val hA (R.to (v := .int .u8 (byt s (x + j))) (R.idxS Tryd.underlying9 rfl rfl (by first | omega | (simp; done))) (by first | rfl | (congr 2; done) | (congr 2; omega))) rfl ?_; clear hA a; intro a hA
    refine S.val hA (R.to (v := .int .u8 (byt s (x + j) - 48)) (R.sub rfl rfl) (congrArg (Value.int .u8) (u8_wrap (by omega)))) rfl ?_; clear hA a; intro a hA
    refine S.val hA (R.to (v := .int .i64 (byt s (x + j) - 48)) (R.conv Tryd.underlying3 Tryd.underlying5 rfl) (congrArg (Value.int .i64) (i64_wrap (by omega)))) rfl ?_; clear hA a; intro a hA
    refine S.val hA (R.addI rfl rfl (r := ((numv s x j) * 10) + (byt s (x + j) - 48)) rfl (by first | omega | (simp; done))) rfl ?_; clear hA a; intro a hA
    refine S.val hA (R.assign rfl) rfl ?_; clear hA a; intro a hA
    refine S.done ?_
    replace hA : St 66 [(0, _), (7, _), (8, _), (9, _)] a := hA.sub ((.cons rfl (.cons rfl (.cons rfl (.cons rfl .nil)))))
    refine Ends.inBlock (Ends.region ?_)
    refine S.val hA (R.move rfl) rfl ?_; clear hA a; intro a hA
    refine S.val hA (R.addI rfl rfl (r := ((x : Int) + (j : Int)) + 1) rfl (by first | omega | (simp; done))) rfl ?_; clear hA a; intro a hA
    refine S.val hA (R.assign rfl) rfl ?_; clear hA a; intro a hA
    refine S.done ?_
    exact hNext1 ((j + 1)) _ _ ((by show k - (j + 1) < k - j; omega)) ⟨hA.sub ((.cons rfl (.cons rfl (.cons rfl (.cons rfl .nil))))), hM, (by omega)⟩
   ·
    refine Ends.exit rfl ?_
    replace hA : St 66 [(7, _), (8, _)] a := hA.sub ((.cons rfl (.cons rfl .nil)))
    refine Ends.seq (Ends.region ?_)
    refine S.val hA (R.move rfl) rfl ?_; clear hA a; intro a hA
    refine S.val hA (R.move rfl) rfl ?_; clear hA a; intro a hA
    refine S.val hA (R.assign rfl) rfl ?_; clear hA a; intro a hA
    refine S.val hA (R.assign rfl) rfl ?_; clear hA a; intro a hA
    refine S.val hA (R.assign rfl) rfl ?_; clear hA a; intro a hA
    refine S.done ?_
    replace hA : St 66 [(4, _), (5, _), (6, _)] a := hA.sub ((.cons rfl (.cons rfl (.cons rfl .nil))))
    refine Ends.ret3 Tryd.func34 Tryd.results34 hA rfl rfl rfl ?_
    have hje : j = k := by omega
    rw [hkq, hje]
    exact ⟨rfl, hM.nilL.below⟩
set_option maxRecDepth 100000 in
set_option maxHeartbeats 400000 in
theorem rread_num (s : ByteArray) (x k : Nat) (hx : x ≤ s.size) (hk : dgs s x = k) (hsz : s.size ≤ 9223372036854775807) (h : 1 < k ∧ k ≤ 18) (h0 : byt s x ≠ 48) (w : World) :
  Calls Tryd.prog 34 #[.string s, .int .i64 ((x : Int))] w fun e w' => e = .returned (.tuple #[.int .i64 (numv s x k), .int .i64 (x + k), .int .i64 (0)]) ∧ Below w.heap.size w w' := by
 have hdg : ∀ j, j < k → dig s (x + j) := fun j hj => (dgs_spec s x).1 j (by omega)
 have hle := dgs_le s hx
 rw [hk] at hle
 have hM := Mem.start w
 refine Calls.of_ends (vs := [.string s, .int .i64 ((x : Int))]) Tryd.func34 rfl Tryd.ntmps34 rfl ?_
 intro a hA
 replace hA : St 66 [(0, _), (1, _)] a := hA
 refine Ends.seq (Ends.region ?_)
 refine S.val hA (R.assign rfl) rfl ?_; clear hA a; intro a hA
 refine S.val hA (R.assign rfl) rfl ?_; clear hA a; intro a hA
 refine S.val hA (R.assign rfl) rfl ?_; clear hA a; intro a hA
 refine S.done ?_
 refine Ends.seq (Ends.seq (Ends.region ?_))
 refine S.val hA (R.move rfl) rfl ?_; clear hA a; intro a hA
 refine S.val hA (R.ff (R.lss rfl rfl) (by first | omega | (simp; done))) rfl ?_; clear hA a; intro a hA
 refine S.val hA (R.move rfl) rfl ?_; clear hA a; intro a hA
 refine S.valg (dj := 12) hA (by kernel_rfl) rfl (R.move rfl) rfl ?_; clear hA a; intro a hA
 refine S.valg (dj := 12) hA (by kernel_rfl) rfl (R.move rfl) rfl ?_; clear hA a; intro a hA
 refine S.valg (dj := 12) hA (by kernel_rfl) rfl (R.lenStr Tryd.underlying9 rfl rfl) rfl ?_; clear hA a; intro a hA
 refine S.valg (dj := 12) hA (by kernel_rfl) rfl (R.ff (R.gtr rfl rfl) (by first | omega | (simp; done))) rfl ?_; clear hA a; intro a hA
 refine S.val hA (R.pickF rfl rfl) rfl ?_; clear hA a; intro a hA
 refine S.done ?_
 replace hA : St 66 [(0, _), (1, _), (17, _)] a := hA.sub ((.cons rfl (.cons rfl (.cons rfl .nil))))
 refine Ends.condF hA rfl ?_
 refine Ends.skip (Ends.seq (Ends.region ?_))
 refine S.val hA (R.move rfl) rfl ?_; clear hA a; intro a hA
 refine S.val hA (R.assign rfl) rfl ?_; clear hA a; intro a hA
 refine S.done ?_
 refine Ends.seq (Ends.block ?_)
 refine Ends.loop (σ := Nat) (fun q (a : Act) (wv : World) => St 66 [(0, .string s), (1, .int .i64 ((x : Int))), (7, .int .i64 ((x : Int) + (q : Int)))] a ∧ Mem w nof [] wv ∧ (x + q ≤ s.size) ∧ (∀ j, j < q → dig s (x + j))) (fun q => s.size - (x + q)) 0 ⟨hA.sub ((.cons rfl (.cons rfl (.cons rfl .nil)))), hM, (by omega), (fun j hj => absurd hj (Nat.not_lt_zero j))⟩ ?_
 clear hA hM a
 rintro q a w1 ⟨hA, hM, hq, hd⟩ hNext
 refine Ends.seq (Ends.seq ?_)
 by_cases hs1 : dig s (x + q)
 ·
  have hdq := hs1
  have hdq1 := hdq.1
  have hdq2 := hdq.2
  refine Ends.region ?_
  refine S.val hA (R.move rfl) rfl ?_; clear hA a; intro a hA
  refine S.val hA (R.move rfl) rfl ?_; clear hA a; intro a hA
  refine S.val hA (R.lenStr Tryd.underlying9 rfl rfl) rfl ?_; clear hA a; intro a hA
  refine S.val hA (R.tt (R.lss rfl rfl) (by first | omega | (simp; done))) rfl ?_; clear hA a; intro a hA
  refine S.val hA (R.move rfl) rfl ?_; clear hA a; intro a hA
  refine S.valg (dj := 23) hA (by kernel_rfl) rfl (R.move rfl) rfl ?_; clear hA a; intro a hA
  refine S.valg (dj := 23) hA (by kernel_rfl) rfl (R.move rfl) rfl ?_; clear hA a; intro a hA
  refine S.valg (dj := 23) hA (by kernel_rfl) rfl (R.to (v := .int .u8 (byt s (x + q))) (R.idxS Tryd.underlying9 rfl rfl (by first | omega | (simp; done))) (by first | rfl | (congr 2; done) | (congr 2; omega))) rfl ?_; clear hA a; intro a hA
  refine S.callg (dj := 23) hA (by kernel_rfl) rfl (R.callF Tryd.func39 rfl rfl rfl) rfl ((rdig_yes (byt s (x + q)) hdq2 _)) ?_; clear hA a
  rintro e w2 ⟨rfl, hb⟩
  replace hM := hM.callB hb; clear hb
  refine ⟨.bool true, rfl, fun a hA => ?_⟩
  refine S.val hA (R.pickT rfl rfl) rfl ?_; clear hA a; intro a hA
  refine S.done ?_
  replace hA : St 66 [(0, _), (1, _), (7, _), (28, _)] a := hA.sub ((.cons rfl (.cons rfl (.cons rfl (.cons rfl .nil)))))
  refine Ends.condT hA rfl ?_
  refine Ends.skip (Ends.block (Ends.region ?_))
  refine S.val hA (R.move rfl) rfl ?_; clear hA a; intro a hA
  refine S.val hA (R.addI rfl rfl (r := ((x : Int) + (q : Int)) + 1) rfl (by first | omega | (simp; done))) rfl ?_; clear hA a; intro a hA
  refine S.val hA (R.assign rfl) rfl ?_; clear hA a; intro a hA
  refine S.done ?_
  refine Ends.inBlock ?_
  have hdl := (hs1).1
  exact hNext ((q + 1)) _ _ ((by show s.size - (x + (q + 1)) < s.size - (x + q); omega)) ⟨hA.sub ((.cons rfl (.cons rfl (.cons rfl .nil)))), hM, (by omega), (fun j hj => by rcases Nat.lt_or_ge j q with g | g; exact hd j g; have e : j = q := (by omega); exact e ▸ hs1)⟩
 ·
  have hkq : q = k := by rw [← hk]; exact (dgs_uniq hd hs1).symm
  by_cases hs2 : x + q < s.size
  ·
   refine Ends.region ?_
   refine S.val hA (R.move rfl) rfl ?_; clear hA a; intro a hA
   refine S.val hA (R.move rfl) rfl ?_; clear hA a; intro a hA
   refine S.val hA (R.lenStr Tryd.underlying9 rfl rfl) rfl ?_; clear hA a; intro a hA
   refine S.val hA (R.tt (R.lss rfl rfl) (by first | omega | (simp; done))) rfl ?_; clear hA a; intro a hA
   refine S.val hA (R.move rfl) rfl ?_; clear hA a; intro a hA
   refine S.valg (dj := 23) hA (by kernel_rfl) rfl (R.move rfl) rfl ?_; clear hA a; intro a hA
   refine S.valg (dj := 23) hA (by kernel_rfl) rfl (R.move rfl) rfl ?_; clear hA a; intro a hA
   refine S.valg (dj := 23) hA (by kernel_rfl) rfl (R.to (v := .int .u8 (byt s (x + q))) (R.idxS Tryd.underlying9 rfl rfl (by first | omega | (simp; done))) (by first | rfl | (congr 2; done) | (congr 2; omega))) rfl ?_; clear hA a; intro a hA
   refine S.callg (dj := 23) hA (by kernel_rfl) rfl (R.callF Tryd.func39 rfl rfl rfl) rfl ((rdig_no (byt s (x + q)) (fun h => hs1 ⟨hs2, h⟩) _)) ?_; clear hA a
   rintro e w3 ⟨rfl, hb⟩
   replace hM := hM.callB hb; clear hb
   refine ⟨.bool false, rfl, fun a hA => ?_⟩
   refine S.val hA (R.pickT rfl rfl) rfl ?_; clear hA a; intro a hA
   refine S.done ?_
   replace hA : St 66 [(0, _), (1, _), (7, _), (28, _)] a := hA.sub ((.cons rfl (.cons rfl (.cons rfl (.cons rfl .nil)))))
   refine Ends.condF hA rfl ?_
   refine Ends.exit rfl ?_
   refine Ends.seq (Ends.seq (Ends.region ?_))
   refine S.val hA (R.move rfl) rfl ?_; clear hA a; intro a hA
   refine S.val hA (R.move rfl) rfl ?_; clear hA a; intro a hA
   refine S.val hA (R.ff (R.eql rfl rfl) (by first | omega | (simp; done))) rfl ?_; clear hA a; intro a hA
   refine S.val hA (R.move rfl) rfl ?_; clear hA a; intro a hA
   refine S.valg (dj := 34) hA (by kernel_rfl) rfl (R.move rfl) rfl ?_; clear hA a; intro a hA
   refine S.valg (dj := 34) hA (by kernel_rfl) rfl (R.move rfl) rfl ?_; clear hA a; intro a hA
   refine S.valg (dj := 34) hA (by kernel_rfl) rfl (R.subI rfl rfl (r := ((x : Int) + (q : Int)) - ((x : Int))) rfl (by first | omega | (simp; done))) rfl ?_; clear hA a; intro a hA
   refine S.valg (dj := 34) hA (by kernel_rfl) rfl (R.tt (R.gtr rfl rfl) (by first | omega | (simp; done))) rfl ?_; clear hA a; intro a hA
   refine S.valg (dj := 34) hA (by kernel_rfl) rfl (R.move rfl) rfl ?_; clear hA a; intro a hA
   refine S.valg (dj := 39) hA (by kernel_rfl) rfl (R.move rfl) rfl ?_; clear hA a; intro a hA
   refine S.valg (dj := 39) hA (by kernel_rfl) rfl (R.move rfl) rfl ?_; clear hA a; intro a hA
   refine S.valg (dj := 39) hA (by kernel_rfl) rfl (R.to (v := .int .u8 (byt s x)) (R.idxS Tryd.underlying9 rfl rfl (by first | omega | (simp; done))) (by first | rfl | (congr 2; done) | (congr 2; omega))) rfl ?_; clear hA a; intro a hA
   refine S.valg (dj := 39) hA (by kernel_rfl) rfl (R.ff (R.eql rfl rfl) (by first | omega | (simp; done))) rfl ?_; clear hA a; intro a hA
   refine S.valg (dj := 34) hA (by kernel_rfl) rfl (R.pickT rfl rfl) rfl ?_; clear hA a; intro a hA
   refine S.val hA (R.pickF rfl rfl) rfl ?_; clear hA a; intro a hA
   refine S.done ?_
   replace hA : St 66 [(0, _), (1, _), (7, _), (45, _)] a := hA.sub ((.cons rfl (.cons rfl (.cons rfl (.cons rfl .nil)))))
   refine Ends.condF hA rfl ?_
   refine Ends.skip (Ends.seq (Ends.seq (Ends.region ?_)))
   refine S.val hA (R.move rfl) rfl ?_; clear hA a; intro a hA
   refine S.val hA (R.move rfl) rfl ?_; clear hA a; intro a hA
   refine S.val hA (R.subI rfl rfl (r := ((x : Int) + (q : Int)) - ((x : Int))) rfl (by first | omega | (simp; done))) rfl ?_; clear hA a; intro a hA
   refine S.val hA (R.ff (R.gtr rfl rfl) (by first | omega | (simp; done))) rfl ?_; clear hA a; intro a hA
   refine S.done ?_
   replace hA : St 66 [(0, _), (1, _), (7, _), (49, _)] a := hA.sub ((.cons rfl (.cons rfl (.cons rfl (.cons rfl .nil)))))
   refine Ends.condF hA rfl ?_
   refine Ends.skip (Ends.seq (Ends.region ?_))
   refine S.val hA (R.assign rfl) rfl ?_; clear hA a; intro a hA
   refine S.done ?_
   refine Ends.seq (Ends.seq (Ends.region ?_))
   refine S.val hA (R.move rfl) rfl ?_; clear hA a; intro a hA
   refine S.val hA (R.assign rfl) rfl ?_; clear hA a; intro a hA
   refine S.done ?_
   refine Ends.block ?_
   refine Ends.loop (σ := Nat) (fun j (a : Act) (wv : World) => St 66 [(0, .string s), (7, .int .i64 ((x : Int) + (q : Int))), (8, .int .i64 (numv s x j)), (9, .int .i64 ((x : Int) + (j : Int)))] a ∧ Mem w nof [] wv ∧ (j ≤ k)) (fun j => k - j) 0 ⟨hA.sub ((.cons rfl (.cons rfl (.cons rfl (.cons rfl .nil))))), hM, (Nat.zero_le _)⟩ ?_
   clear hA hM a
   rintro j a w4 ⟨hA, hM, hj⟩ hNext1
   refine Ends.seq (Ends.seq (Ends.region ?_))
   refine S.val hA (R.move rfl) rfl ?_; clear hA a; intro a hA
   refine S.val hA (R.move rfl) rfl ?_; clear hA a; intro a hA
   refine S.val hA (R.lss rfl rfl) rfl ?_; clear hA a; intro a hA
   refine S.done ?_
   refine Ends.ite hA rfl (fun hc3 => ?_) (fun hc3 => ?_)
   ·
    refine Ends.skip (Ends.seq (Ends.block ?_))
    have hnv := numv_lt (s := s) (x := x) (k := j) (fun i hi => hdg i (by omega)) (by omega)
    have hdj := (hdg j (by omega)).2
    have hbb := byt_bd s (x + j)
    refine Ends.region ?_
    refine S.val hA (R.move rfl) rfl ?_; clear hA a; intro a hA
    refine S.val hA (R.mulI rfl rfl (r := (numv s x j) * 10) rfl (by first | omega | (simp; done))) rfl ?_; clear hA a; intro a hA
    refine S.val hA (R.move rfl) rfl ?_; clear hA a; intro a hA
    refine S.val hA (R.move rfl) rfl ?_; clear hA a; intro a hA
    refine S.val hA (R.to (v := .int .u8 (byt s (x + j))) (R.idxS Tryd.underlying9 rfl rfl (by first | omega | (simp; done))) (by first | rfl | (congr 2; done) | (congr 2; omega))) rfl ?_; clear hA a; intro a hA
    refine S.val hA (R.to (v := .int .u8 (byt s (x + j) - 48)) (R.sub rfl rfl) (congrArg (Value.int .u8) (u8_wrap (by omega)))) rfl ?_; clear hA a; intro a hA
    refine S.val hA (R.to (v := .int .i64 (byt s (x + j) - 48)) (R.conv Tryd.underlying3 Tryd.underlying5 rfl) (congrArg (Value.int .i64) (i64_wrap (by omega)))) rfl ?_; clear hA a; intro a hA
    refine S.val hA (R.addI rfl rfl (r := ((numv s x j) * 10) + (byt s (x + j) - 48)) rfl (by first | omega | (simp; done))) rfl ?_; clear hA a; intro a hA
    refine S.val hA (R.assign rfl) rfl ?_; clear hA a; intro a hA
    refine S.done ?_
    replace hA : St 66 [(0, _), (7, _), (8, _), (9, _)] a := hA.sub ((.cons rfl (.cons rfl (.cons rfl (.cons rfl .nil)))))
    refine Ends.inBlock (Ends.region ?_)
    refine S.val hA (R.move rfl) rfl ?_; clear hA a; intro a hA
    refine S.val hA (R.addI rfl rfl (r := ((x : Int) + (j : Int)) + 1) rfl (by first | omega | (simp; done))) rfl ?_; clear hA a; intro a hA
    refine S.val hA (R.assign rfl) rfl ?_; clear hA a; intro a hA
    refine S.done ?_
    exact hNext1 ((j + 1)) _ _ ((by show k - (j + 1) < k - j; omega)) ⟨hA.sub ((.cons rfl (.cons rfl (.cons rfl (.cons rfl .nil))))), hM, (by omega)⟩
   ·
    refine Ends.exit rfl ?_
    replace hA : St 66 [(7, _), (8, _)] a := hA.sub ((.cons rfl (.cons rfl .nil)))
    refine Ends.seq (Ends.region ?_)
    refine S.val hA (R.move rfl) rfl ?_; clear hA a; intro a hA
    refine S.val hA (R.move rfl) rfl ?_; clear hA a; intro a hA
    refine S.val hA (R.assign rfl) rfl ?_; clear hA a; intro a hA
    refine S.val hA (R.assign rfl) rfl ?_; clear hA a; intro a hA
    refine S.val hA (R.assign rfl) rfl ?_; clear hA a; intro a hA
    refine S.done ?_
    replace hA : St 66 [(4, _), (5, _), (6, _)] a := hA.sub ((.cons rfl (.cons rfl (.cons rfl .nil))))
    refine Ends.ret3 Tryd.func34 Tryd.results34 hA rfl rfl rfl ?_
    have hje : j = k := by omega
    rw [hkq, hje]
    exact ⟨rfl, hM.nilL.below⟩
  ·
   refine Ends.region ?_
   refine S.val hA (R.move rfl) rfl ?_; clear hA a; intro a hA
   refine S.val hA (R.move rfl) rfl ?_; clear hA a; intro a hA
   refine S.val hA (R.lenStr Tryd.underlying9 rfl rfl) rfl ?_; clear hA a; intro a hA
   refine S.val hA (R.ff (R.lss rfl rfl) (by first | omega | (simp; done))) rfl ?_; clear hA a; intro a hA
   refine S.val hA (R.move rfl) rfl ?_; clear hA a; intro a hA
   refine S.no (dj := 23) hA (by kernel_rfl) rfl rfl rfl ?_; clear hA a; intro a hA
   refine S.no (dj := 23) hA (by kernel_rfl) rfl rfl rfl ?_; clear hA a; intro a hA
   refine S.no (dj := 23) hA (by kernel_rfl) rfl rfl rfl ?_; clear hA a; intro a hA
   refine S.no (dj := 23) hA (by kernel_rfl) rfl rfl rfl ?_; clear hA a; intro a hA
   refine S.val hA (R.pickF rfl rfl) rfl ?_; clear hA a; intro a hA
   refine S.done ?_
   replace hA : St 66 [(0, _), (1, _), (7, _), (28, _)] a := hA.sub ((.cons rfl (.cons rfl (.cons rfl (.cons rfl .nil)))))
   refine Ends.condF hA rfl ?_
   refine Ends.exit rfl ?_
   refine Ends.seq (Ends.seq (Ends.region ?_))
   refine S.val hA (R.move rfl) rfl ?_; clear hA a; intro a hA
   refine S.val hA (R.move rfl) rfl ?_; clear hA a; intro a hA
   refine S.val hA (R.ff (R.eql rfl rfl) (by first | omega | (simp; done))) rfl ?_; clear hA a; intro a hA
   refine S.val hA (R.move rfl) rfl ?_; clear hA a; intro a hA
   refine S.valg (dj := 34) hA (by kernel_rfl) rfl (R.move rfl) rfl ?_; clear hA a; intro a hA
   refine S.valg (dj := 34) hA (by kernel_rfl) rfl (R.move rfl) rfl ?_; clear hA a; intro a hA
   refine S.valg (dj := 34) hA (by kernel_rfl) rfl (R.subI rfl rfl (r := ((x : Int) + (q : Int)) - ((x : Int))) rfl (by first | omega | (simp; done))) rfl ?_; clear hA a; intro a hA
   refine S.valg (dj := 34) hA (by kernel_rfl) rfl (R.tt (R.gtr rfl rfl) (by first | omega | (simp; done))) rfl ?_; clear hA a; intro a hA
   refine S.valg (dj := 34) hA (by kernel_rfl) rfl (R.move rfl) rfl ?_; clear hA a; intro a hA
   refine S.valg (dj := 39) hA (by kernel_rfl) rfl (R.move rfl) rfl ?_; clear hA a; intro a hA
   refine S.valg (dj := 39) hA (by kernel_rfl) rfl (R.move rfl) rfl ?_; clear hA a; intro a hA
   refine S.valg (dj := 39) hA (by kernel_rfl) rfl (R.to (v := .int .u8 (byt s x)) (R.idxS Tryd.underlying9 rfl rfl (by first | omega | (simp; done))) (by first | rfl | (congr 2; done) | (congr 2; omega))) rfl ?_; clear hA a; intro a hA
   refine S.valg (dj := 39) hA (by kernel_rfl) rfl (R.ff (R.eql rfl rfl) (by first | omega | (simp; done))) rfl ?_; clear hA a; intro a hA
   refine S.valg (dj := 34) hA (by kernel_rfl) rfl (R.pickT rfl rfl) rfl ?_; clear hA a; intro a hA
   refine S.val hA (R.pickF rfl rfl) rfl ?_; clear hA a; intro a hA
   refine S.done ?_
   replace hA : St 66 [(0, _), (1, _), (7, _), (45, _)] a := hA.sub ((.cons rfl (.cons rfl (.cons rfl (.cons rfl .nil)))))
   refine Ends.condF hA rfl ?_
   refine Ends.skip (Ends.seq (Ends.seq (Ends.region ?_)))
   refine S.val hA (R.move rfl) rfl ?_; clear hA a; intro a hA
   refine S.val hA (R.move rfl) rfl ?_; clear hA a; intro a hA
   refine S.val hA (R.subI rfl rfl (r := ((x : Int) + (q : Int)) - ((x : Int))) rfl (by first | omega | (simp; done))) rfl ?_; clear hA a; intro a hA
   refine S.val hA (R.ff (R.gtr rfl rfl) (by first | omega | (simp; done))) rfl ?_; clear hA a; intro a hA
   refine S.done ?_
   replace hA : St 66 [(0, _), (1, _), (7, _), (49, _)] a := hA.sub ((.cons rfl (.cons rfl (.cons rfl (.cons rfl .nil)))))
   refine Ends.condF hA rfl ?_
   refine Ends.skip (Ends.seq (Ends.region ?_))
   refine S.val hA (R.assign rfl) rfl ?_; clear hA a; intro a hA
   refine S.done ?_
   refine Ends.seq (Ends.seq (Ends.region ?_))
   refine S.val hA (R.move rfl) rfl ?_; clear hA a; intro a hA
   refine S.val hA (R.assign rfl) rfl ?_; clear hA a; intro a hA
   refine S.done ?_
   refine Ends.block ?_
   refine Ends.loop (σ := Nat) (fun j (a : Act) (wv : World) => St 66 [(0, .string s), (7, .int .i64 ((x : Int) + (q : Int))), (8, .int .i64 (numv s x j)), (9, .int .i64 ((x : Int) + (j : Int)))] a ∧ Mem w nof [] wv ∧ (j ≤ k)) (fun j => k - j) 0 ⟨hA.sub ((.cons rfl (.cons rfl (.cons rfl (.cons rfl .nil))))), hM, (Nat.zero_le _)⟩ ?_
   clear hA hM a
   rintro j a w5 ⟨hA, hM, hj⟩ hNext1
   refine Ends.seq (Ends.seq (Ends.region ?_))
   refine S.val hA (R.move rfl) rfl ?_; clear hA a; intro a hA
   refine S.val hA (R.move rfl) rfl ?_; clear hA a; intro a hA
   refine S.val hA (R.lss rfl rfl) rfl ?_; clear hA a; intro a hA
   refine S.done ?_
   refine Ends.ite hA rfl (fun hc4 => ?_) (fun hc4 => ?_)
   ·
    refine Ends.skip (Ends.seq (Ends.block ?_))
    have hnv := numv_lt (s := s) (x := x) (k := j) (fun i hi => hdg i (by omega)) (by omega)
    have hdj := (hdg j (by omega)).2
    have hbb := byt_bd s (x + j)
    refine Ends.region ?_
    refine S.val hA (R.move rfl) rfl ?_; clear hA a; intro a hA
    refine S.val hA (R.mulI rfl rfl (r := (numv s x j) * 10) rfl (by first | omega | (simp; done))) rfl ?_; clear hA a; intro a hA
    refine S.val hA (R.move rfl) rfl ?_; clear hA a; intro a hA
    refine S.val hA (R.move rfl) rfl ?_; clear hA a; intro a hA
    refine S.val hA (R.to (v := .int .u8 (byt s (x + j))) (R.idxS Tryd.underlying9 rfl rfl (by first | omega | (simp; done))) (by first | rfl | (congr 2; done) | (congr 2; omega))) rfl ?_; clear hA a; intro a hA
    refine S.val hA (R.to (v := .int .u8 (byt s (x + j) - 48)) (R.sub rfl rfl) (congrArg (Value.int .u8) (u8_wrap (by omega)))) rfl ?_; clear hA a; intro a hA
    refine S.val hA (R.to (v := .int .i64 (byt s (x + j) - 48)) (R.conv Tryd.underlying3 Tryd.underlying5 rfl) (congrArg (Value.int .i64) (i64_wrap (by omega)))) rfl ?_; clear hA a; intro a hA
    refine S.val hA (R.addI rfl rfl (r := ((numv s x j) * 10) + (byt s (x + j) - 48)) rfl (by first | omega | (simp; done))) rfl ?_; clear hA a; intro a hA
    refine S.val hA (R.assign rfl) rfl ?_; clear hA a; intro a hA
    refine S.done ?_
    replace hA : St 66 [(0, _), (7, _), (8, _), (9, _)] a := hA.sub ((.cons rfl (.cons rfl (.cons rfl (.cons rfl .nil)))))
    refine Ends.inBlock (Ends.region ?_)
    refine S.val hA (R.move rfl) rfl ?_; clear hA a; intro a hA
    refine S.val hA (R.addI rfl rfl (r := ((x : Int) + (j : Int)) + 1) rfl (by first | omega | (simp; done))) rfl ?_; clear hA a; intro a hA
    refine S.val hA (R.assign rfl) rfl ?_; clear hA a; intro a hA
    refine S.done ?_
    exact hNext1 ((j + 1)) _ _ ((by show k - (j + 1) < k - j; omega)) ⟨hA.sub ((.cons rfl (.cons rfl (.cons rfl (.cons rfl .nil))))), hM, (by omega)⟩
   ·
    refine Ends.exit rfl ?_
    replace hA : St 66 [(7, _), (8, _)] a := hA.sub ((.cons rfl (.cons rfl .nil)))
    refine Ends.seq (Ends.region ?_)
    refine S.val hA (R.move rfl) rfl ?_; clear hA a; intro a hA
    refine S.val hA (R.move rfl) rfl ?_; clear hA a; intro a hA
    refine S.val hA (R.assign rfl) rfl ?_; clear hA a; intro a hA
    refine S.val hA (R.assign rfl) rfl ?_; clear hA a; intro a hA
    refine S.val hA (R.assign rfl) rfl ?_; clear hA a; intro a hA
    refine S.done ?_
    replace hA : St 66 [(4, _), (5, _), (6, _)] a := hA.sub ((.cons rfl (.cons rfl (.cons rfl .nil))))
    refine Ends.ret3 Tryd.func34 Tryd.results34 hA rfl rfl rfl ?_
    have hje : j = k := by omega
    rw [hkq, hje]
    exact ⟨rfl, hM.nilL.below⟩
theorem rread_any (s : ByteArray) (p : Int) (hsz : s.size ≤ 9223372036854775807) (w : World) : Calls Tryd.prog 34 #[.string s, .int .i64 p] w fun e w' => e = .returned (.tuple #[.int .i64 (readI s p).1, .int .i64 (readI s p).2.1, .int .i64 (readI s p).2.2]) ∧ Below w.heap.size w w' := by
  by_cases h : p < 0 ∨ (s.size : Int) < p
  · have e : readI s p = (0, 0, 1) := by unfold readI; rw [if_pos h]
    rw [e]; exact rread_out s p h w
  · obtain ⟨x, rfl⟩ : ∃ x : Nat, p = x := ⟨p.toNat, by omega⟩
    have hx : x ≤ s.size := by omega
    have ex : ((x : Int)).toNat = x := rfl
    obtain ⟨k, hk⟩ : ∃ k, dgs s x = k := ⟨_, rfl⟩
    by_cases h1 : k = 0
    · have e : readI s x = (0, 0, 4) := by unfold readI; rw [if_neg h, ex, hk, if_pos (.inl h1)]
      rw [e]; exact rread_none s x k hx hk hsz h1 w
    · by_cases h2 : 1 < k
      · by_cases h3 : byt s x = 48
        · have e : readI s x = (0, 0, 4) := by unfold readI; rw [if_neg h, ex, hk, if_pos (.inr ⟨h2, h3⟩)]
          rw [e]; exact rread_nul s x k hx hk hsz h2 h3 w
        · have hn : ¬ (k = 0 ∨ 1 < k ∧ byt s x = 48) := fun hh => hh.elim h1 (fun g => h3 g.2)
          by_cases h4 : 18 < k
          · have e : readI s x = (0, 0, 5) := by unfold readI; rw [if_neg h, ex, hk, if_neg hn, if_pos h4]
            rw [e]; exact rread_big s x k hx hk hsz h4 h3 w
          · have e : readI s x = (numv s x k, (x : Int) + (k : Int), 0) := by unfold readI; rw [if_neg h, ex, hk, if_neg hn, if_neg h4]
            rw [e]; exact rread_num s x k hx hk hsz ⟨h2, by omega⟩ h3 w
      · have hn : ¬ (k = 0 ∨ 1 < k ∧ byt s x = 48) := fun hh => hh.elim h1 (fun g => h2 g.1)
        have e : readI s x = (numv s x k, (x : Int) + (k : Int), 0) := by unfold readI; rw [if_neg h, ex, hk, if_neg hn, if_neg (by omega)]
        rw [e]; exact rread_num1 s x k hx hk hsz (by omega) w
end Go.Proofs.YtnhnjjlfoajbgaaDoor
namespace Go.Proofs.YtnhnjjlfoajbgaaDoor
open Go.RowKit
theorem ahead_byt : ∀ k, k < 5 → byt ⟨#[67, 69, 82, 84, 32]⟩ k = aheadW.getD k 0 := by decide
set_option maxRecDepth 100000 in
set_option maxHeartbeats 400000 in
theorem rsign30 (s : ByteArray) (p : Nat) (c : Int) (hs : s.size ≤ 4611686018427387904) (w : World) :
  Calls Tryd.prog 24 #[.string s, .int .i64 ((p : Int)), .int .u8 c] w fun e w' => e = .returned (.int .i64 (sgE s p c)) ∧ Below w.heap.size w w' := by
 have hbs := Below.refl (B := w.heap.size) w
 have hM := Mem.start w
 refine Calls.of_ends (vs := [.string s, .int .i64 ((p : Int)), .int .u8 c]) Tryd.func24 rfl Tryd.ntmps24 rfl ?_
 intro a hA
 replace hA : St 16 [(0, _), (1, _), (2, _)] a := hA
 refine Ends.seq (Ends.region ?_)
 refine S.val hA (R.assign rfl) rfl ?_; clear hA a; intro a hA
 refine S.done ?_
 refine Ends.seq (Ends.seq (Ends.region ?_))
 refine S.val hA (R.move rfl) rfl ?_; clear hA a; intro a hA
 refine S.val hA (R.move rfl) rfl ?_; clear hA a; intro a hA
 refine S.val hA (R.lenStr Tryd.underlying9 rfl rfl) rfl ?_; clear hA a; intro a hA
 refine S.val hA (R.geq rfl rfl) rfl ?_; clear hA a; intro a hA
 refine S.done ?_
 replace hA : St 16 [(0, _), (1, _), (2, _), (10, _)] a := hA.sub ((.cons rfl (.cons rfl (.cons rfl (.cons rfl .nil)))))
 refine Ends.ite hA rfl (fun hc1 => ?_) (fun hc1 => ?_)
 ·
  have hT : sgE s p c = 6 := sgE_out (by omega)
  refine Ends.seq (Ends.region ?_)
  refine S.val hA (R.assign rfl) rfl ?_; clear hA a; intro a hA
  refine S.done ?_
  refine Ends.ret1 Tryd.func24 Tryd.results24 hA rfl ?_
  rw [hT]
  exact ⟨rfl, Mem.trans0 hbs hM.nilL⟩
 ·
  have hlt : p < s.size := by omega
  refine Ends.skip (Ends.seq (Ends.seq (Ends.region ?_)))
  refine S.val hA (R.move rfl) rfl ?_; clear hA a; intro a hA
  refine S.val hA (R.move rfl) rfl ?_; clear hA a; intro a hA
  refine S.val hA (R.to (v := .int .u8 (byt s p)) (R.idxS Tryd.underlying9 rfl rfl (by omega)) (by first | rfl | (congr 2; done) | (congr 2; omega))) rfl ?_; clear hA a; intro a hA
  refine S.val hA (R.move rfl) rfl ?_; clear hA a; intro a hA
  refine S.val hA (R.neq rfl rfl) rfl ?_; clear hA a; intro a hA
  refine S.done ?_
  replace hA : St 16 [(15, _)] a := hA.sub ((.cons rfl .nil))
  refine Ends.ite hA rfl (fun hc2 => ?_) (fun hc2 => ?_)
  ·
   have hT : sgE s p c = 2 := sgE_miss hlt hc2
   refine Ends.seq (Ends.region ?_)
   refine S.val hA (R.assign rfl) rfl ?_; clear hA a; intro a hA
   refine S.done ?_
   refine Ends.ret1 Tryd.func24 Tryd.results24 hA rfl ?_
   rw [hT]
   exact ⟨rfl, Mem.trans0 hbs hM.nilL⟩
  ·
   have hT : sgE s p c = 0 := sgE_ok hlt (Decidable.not_not.1 hc2)
   refine Ends.skip (Ends.seq (Ends.region ?_))
   refine S.val hA (R.assign rfl) rfl ?_; clear hA a; intro a hA
   refine S.done ?_
   refine Ends.ret1 Tryd.func24 Tryd.results24 hA rfl ?_
   rw [hT]
   exact ⟨rfl, Mem.trans0 hbs hM.nilL⟩
set_option maxRecDepth 100000 in
set_option maxHeartbeats 400000 in
theorem rnumber30 (s : ByteArray) (p : Nat) (most : Int) (hs : s.size ≤ 4611686018427387904) (w : World) :
  Calls Tryd.prog 25 #[.string s, .int .i64 ((p : Int)), .int .i64 most] w fun e w' => e = .returned (.tuple #[.int .i64 (nmE s p most).1, .int .i64 (((nmE s p most).2.1 : Nat) : Int), .int .i64 (nmE s p most).2.2]) ∧ Below w.heap.size w w' := by
 have hbs := Below.refl (B := w.heap.size) w
 have hM := Mem.start w
 refine Calls.of_ends (vs := [.string s, .int .i64 ((p : Int)), .int .i64 most]) Tryd.func25 rfl Tryd.ntmps25 rfl ?_
 intro a hA
 replace hA : St 34 [(0, _), (1, _), (2, _)] a := hA
 refine Ends.seq (Ends.region ?_)
 refine S.val hA (R.assign rfl) rfl ?_; clear hA a; intro a hA
 refine S.val hA (R.assign rfl) rfl ?_; clear hA a; intro a hA
 refine S.val hA (R.assign rfl) rfl ?_; clear hA a; intro a hA
 refine S.done ?_
 refine Ends.seq (Ends.seq (Ends.region ?_))
 refine S.val hA (R.move rfl) rfl ?_; clear hA a; intro a hA
 refine S.val hA (R.move rfl) rfl ?_; clear hA a; intro a hA
 refine S.val hA (R.lenStr Tryd.underlying9 rfl rfl) rfl ?_; clear hA a; intro a hA
 refine S.val hA (R.geq rfl rfl) rfl ?_; clear hA a; intro a hA
 refine S.done ?_
 replace hA : St 34 [(0, _), (1, _), (2, _), (15, _)] a := hA.sub ((.cons rfl (.cons rfl (.cons rfl (.cons rfl .nil)))))
 refine Ends.ite hA rfl (fun hc1 => ?_) (fun hc1 => ?_)
 ·
  have hT : nmE s p most = (0, p, 6) := if_pos (by omega)
  refine Ends.seq (Ends.region ?_)
  refine S.val hA (R.move rfl) rfl ?_; clear hA a; intro a hA
  refine S.val hA (R.assign rfl) rfl ?_; clear hA a; intro a hA
  refine S.val hA (R.assign rfl) rfl ?_; clear hA a; intro a hA
  refine S.val hA (R.assign rfl) rfl ?_; clear hA a; intro a hA
  refine S.done ?_
  refine Ends.ret3 Tryd.func25 Tryd.results25 hA rfl rfl rfl ?_
  rw [hT]
  exact ⟨rfl, Mem.trans0 hbs hM.nilL⟩
 ·
  have hlt : p < s.size := by omega
  refine Ends.skip (Ends.seq (Ends.region ?_))
  refine S.val hA (R.move rfl) rfl ?_; clear hA a; intro a hA
  refine S.val hA (R.move rfl) rfl ?_; clear hA a; intro a hA
  refine S.call hA (R.callF Tryd.func34 rfl rfl rfl) rfl (rread_any s ((p : Int)) (by omega) _) ?_; clear hA a
  rintro e w1 ⟨rfl, hb⟩
  replace hM := hM.callB hb; clear hb
  refine ⟨.tuple #[.int .i64 ((readI s ((p : Int))).1), .int .i64 ((readI s ((p : Int))).2.1), .int .i64 ((readI s ((p : Int))).2.2)], rfl, fun a hA => ?_⟩
  refine S.val hA (R.move rfl) rfl ?_; clear hA a; intro a hA
  refine S.val hA (R.extract (v := .int .i64 ((readI s ((p : Int))).1)) rfl rfl) rfl ?_; clear hA a; intro a hA
  refine S.val hA (R.extract (v := .int .i64 ((readI s ((p : Int))).2.1)) rfl rfl) rfl ?_; clear hA a; intro a hA
  refine S.val hA (R.extract (v := .int .i64 ((readI s ((p : Int))).2.2)) rfl rfl) rfl ?_; clear hA a; intro a hA
  refine S.val hA (R.assign rfl) rfl ?_; clear hA a; intro a hA
  refine S.val hA (R.assign rfl) rfl ?_; clear hA a; intro a hA
  refine S.val hA (R.assign rfl) rfl ?_; clear hA a; intro a hA
  refine S.done ?_
  replace hA : St 34 [(1, _), (2, _), (9, _), (10, _), (11, _)] a := hA.sub ((.cons rfl (.cons rfl (.cons rfl (.cons rfl (.cons rfl .nil))))))
  refine Ends.seq (Ends.seq (Ends.region ?_))
  refine S.val hA (R.move rfl) rfl ?_; clear hA a; intro a hA
  refine S.val hA (R.neq rfl rfl) rfl ?_; clear hA a; intro a hA
  refine S.done ?_
  refine Ends.ite hA rfl (fun hc2 => ?_) (fun hc2 => ?_)
  ·
   have hT : nmE s p most = (0, p, (readI s p).2.2) := by unfold nmE; rw [if_neg (by omega), if_pos hc2]
   refine Ends.seq (Ends.region ?_)
   refine S.val hA (R.move rfl) rfl ?_; clear hA a; intro a hA
   refine S.val hA (R.move rfl) rfl ?_; clear hA a; intro a hA
   refine S.val hA (R.assign rfl) rfl ?_; clear hA a; intro a hA
   refine S.val hA (R.assign rfl) rfl ?_; clear hA a; intro a hA
   refine S.val hA (R.assign rfl) rfl ?_; clear hA a; intro a hA
   refine S.done ?_
   replace hA : St 34 [(1, _), (2, _), (6, _), (7, _), (8, _), (9, _), (10, _)] a := hA.sub ((.cons rfl (.cons rfl (.cons rfl (.cons rfl (.cons rfl (.cons rfl (.cons rfl .nil))))))))
   refine Ends.ret3 Tryd.func25 Tryd.results25 hA rfl rfl rfl ?_
   rw [hT]
   exact ⟨rfl, Mem.trans0 hbs hM.nilL⟩
  ·
   have he0 : (readI s p).2.2 = 0 := Decidable.not_not.1 hc2
   refine Ends.skip (Ends.seq (Ends.seq (Ends.region ?_)))
   refine S.val hA (R.move rfl) rfl ?_; clear hA a; intro a hA
   refine S.val hA (R.move rfl) rfl ?_; clear hA a; intro a hA
   refine S.val hA (R.gtr rfl rfl) rfl ?_; clear hA a; intro a hA
   refine S.done ?_
   replace hA : St 34 [(1, _), (9, _), (10, _), (30, _)] a := hA.sub ((.cons rfl (.cons rfl (.cons rfl (.cons rfl .nil)))))
   refine Ends.ite hA rfl (fun hc3 => ?_) (fun hc3 => ?_)
   ·
    have hT : nmE s p most = (0, p, 5) := by unfold nmE; rw [if_neg (by omega), if_neg (not_not_intro he0), if_pos hc3]
    refine Ends.seq (Ends.region ?_)
    refine S.val hA (R.move rfl) rfl ?_; clear hA a; intro a hA
    refine S.val hA (R.assign rfl) rfl ?_; clear hA a; intro a hA
    refine S.val hA (R.assign rfl) rfl ?_; clear hA a; intro a hA
    refine S.val hA (R.assign rfl) rfl ?_; clear hA a; intro a hA
    refine S.done ?_
    refine Ends.ret3 Tryd.func25 Tryd.results25 hA rfl rfl rfl ?_
    rw [hT]
    exact ⟨rfl, Mem.trans0 hbs hM.nilL⟩
   ·
    obtain ⟨hT, hT2⟩ := nm_ok hlt he0 hc3
    refine Ends.skip (Ends.seq (Ends.region ?_))
    refine S.val hA (R.move rfl) rfl ?_; clear hA a; intro a hA
    refine S.val hA (R.move rfl) rfl ?_; clear hA a; intro a hA
    refine S.val hA (R.assign rfl) rfl ?_; clear hA a; intro a hA
    refine S.val hA (R.assign rfl) rfl ?_; clear hA a; intro a hA
    refine S.val hA (R.assign rfl) rfl ?_; clear hA a; intro a hA
    refine S.done ?_
    replace hA : St 34 [(6, _), (7, _), (8, _)] a := hA.sub ((.cons rfl (.cons rfl (.cons rfl .nil))))
    refine Ends.ret3 Tryd.func25 Tryd.results25 hA rfl rfl rfl ?_
    rw [hT2]
    rw [hT]
    exact ⟨rfl, Mem.trans0 hbs hM.nilL⟩
set_option maxRecDepth 100000 in
set_option maxHeartbeats 400000 in
theorem rread30 (s : ByteArray) (hs : s.size ≤ 4611686018427387904) (w : World) :
  Calls Tryd.prog 15 #[.string s] w fun e w' => ∃ oa oc, e = .returned (.tuple #[.agg #[.int .i64 (rdC s).1.v, .slice oa (rdC s).1.X.length oc, .string (rdC s).1.t], .int .i64 (rdC s).2.1, .int .i64 (rdC s).2.2]) ∧ Mem w nof [own 3 1 (.slice oa (((rdC s).1.X).length) oc) (((rdC s).1.X).length) (((rdC s).1.X).map (Value.int .i64))] w' := by
 have hbs := Below.refl (B := w.heap.size) w
 have hsz5 : (⟨#[67, 69, 82, 84, 32]⟩ : ByteArray).size = 5 := rfl
 have hM := Mem.start w
 refine Calls.of_ends (vs := [.string s]) Tryd.func15 rfl Tryd.ntmps15 rfl ?_
 intro a hA
 replace hA : St 172 [(0, _)] a := hA
 refine Ends.seq (Ends.region ?_)
 refine S.alloc hA hM info24 rfl rfl ?_; clear hA hM a; intro b1 w1 hb2 hM a hA
 replace hM : Mem _ _ [pt b1 #[.int .i64 0, .slice none 0 0, .string (⟨#[]⟩)] 24] _ := hM
 refine S.val hA (R.assign rfl) rfl ?_; clear hA a; intro a hA
 refine S.val hA (R.assign rfl) rfl ?_; clear hA a; intro a hA
 refine S.done ?_
 refine Ends.seq (Ends.region ?_)
 refine S.val hA (R.assign rfl) rfl ?_; clear hA a; intro a hA
 refine S.done ?_
 refine Ends.seq (Ends.seq (Ends.region ?_))
 refine S.val hA (R.assign rfl) rfl ?_; clear hA a; intro a hA
 refine S.done ?_
 refine Ends.block ?_
 refine Ends.loop (σ := Nat) (fun k (a : Act) (wv : World) => St 172 [(0, .string s), (2, .pointer (some ⟨b1, 0, none⟩)), (5, .int .i64 ((k : Int))), (6, .int .i64 ((k : Int)))] a ∧ Mem w nof [pt b1 #[.int .i64 0, .slice none 0 0, .string (⟨#[]⟩)] 24] wv ∧ (k ≤ 5) ∧ (k ≤ s.size) ∧ (cH1 s = sgW s (aheadW.drop k) k)) (fun k => 5 - k) 0 ⟨hA.sub ((.cons rfl (.cons rfl (.cons rfl (.cons rfl .nil))))), hM, (Nat.zero_le _), (Nat.zero_le _), rfl⟩ ?_
 clear hA hM a
 rintro k a w2 ⟨hA, hM, hk, hks, hinv⟩ hNext
 refine Ends.seq (Ends.seq (Ends.region ?_))
 refine S.val hA (R.move rfl) rfl ?_; clear hA a; intro a hA
 refine S.val hA (R.lss rfl rfl) rfl ?_; clear hA a; intro a hA
 refine S.done ?_
 refine Ends.ite hA rfl (fun hc3 => ?_) (fun hc3 => ?_)
 ·
  have hdr : aheadW.drop k = aheadW.getD k 0 :: aheadW.drop (k + 1) := by rw [List.drop_eq_getElem_cons (show k < aheadW.length from (by omega : k < 5))]; congr 1; simp [List.getD, show k < aheadW.length from (by omega : k < 5)]
  have hbk := ahead_byt k (by omega)
  refine Ends.skip (Ends.seq (Ends.block (Ends.seq (Ends.seq (Ends.region ?_)))))
  refine S.val hA (R.move rfl) rfl ?_; clear hA a; intro a hA
  refine S.val hA (R.move rfl) rfl ?_; clear hA a; intro a hA
  refine S.val hA (R.move rfl) rfl ?_; clear hA a; intro a hA
  refine S.val hA (R.to (v := .int .u8 (byt (⟨#[67, 69, 82, 84, 32]⟩) k)) (R.idxS Tryd.underlying9 rfl rfl (by omega)) (by first | rfl | (congr 2; done) | (congr 2; omega))) rfl ?_; clear hA a; intro a hA
  refine S.call hA (R.callF Tryd.func24 rfl rfl rfl) rfl (rsign30 s k (byt (⟨#[67, 69, 82, 84, 32]⟩) k) hs _) ?_; clear hA a
  rintro e w3 ⟨rfl, hb⟩
  replace hM := hM.callB hb; clear hb
  refine ⟨.int .i64 (sgE s k (byt (⟨#[67, 69, 82, 84, 32]⟩) k)), rfl, fun a hA => ?_⟩
  refine S.val hA (R.assign rfl) rfl ?_; clear hA a; intro a hA
  refine S.done ?_
  replace hA : St 172 [(0, _), (2, _), (5, _), (6, _), (7, _)] a := hA.sub ((.cons rfl (.cons rfl (.cons rfl (.cons rfl (.cons rfl .nil))))))
  refine Ends.seq (Ends.region ?_)
  refine S.val hA (R.move rfl) rfl ?_; clear hA a; intro a hA
  refine S.val hA (R.neq rfl rfl) rfl ?_; clear hA a; intro a hA
  refine S.done ?_
  refine Ends.ite hA rfl (fun hc4 => ?_) (fun hc4 => ?_)
  ·
   rw [hbk] at hc4
   have hH1 : cH1 s = (k, sgE s k (aheadW.getD k 0)) := by rw [hinv, hdr, sgW, if_pos hc4]
   have hT0 : cHd s = (k, sgE s k (aheadW.getD k 0)) := by unfold cHd; rw [hH1, if_pos hc4]
   have hT : rdC s = (crz, ((cHd s).1 : Int), (cHd s).2) := if_pos (by rw [hT0]; exact hc4)
   rw [hT0] at hT
   rw [← hbk] at hT
   refine Ends.seq (Ends.region ?_)
   refine S.val hA (R.build (cells := #[.int .i64 0, .slice none 0 0, .string (⟨#[]⟩)]) rfl (by kernel_rfl)) rfl ?_; clear hA a; intro a hA
   refine S.val hA (R.move rfl) rfl ?_; clear hA a; intro a hA
   refine S.val hA (R.move rfl) rfl ?_; clear hA a; intro a hA
   refine S.storeA (k := 0) hA hM sz24 rfl rfl rfl rfl rfl rfl ?_; clear hM
   intro w4 hM
   replace hM : Mem _ _ [pt b1 #[.int .i64 0, .slice none 0 0, .string (⟨#[]⟩)] 24] _ := hM
   refine S.val hA (R.assign rfl) rfl ?_; clear hA a; intro a hA
   refine S.val hA (R.assign rfl) rfl ?_; clear hA a; intro a hA
   refine S.done ?_
   replace hA : St 172 [(0, _), (2, _), (3, _), (4, _), (5, _), (6, _)] a := hA.sub ((.cons rfl (.cons rfl (.cons rfl (.cons rfl (.cons rfl (.cons rfl .nil)))))))
   refine Ends.retC3 (k := 0) Tryd.func15 Tryd.results15 hA hM rfl rfl rfl rfl sz24 rfl ?_
   replace hM := hM.nilL.ownNil 3 1
   rw [hT]
   exact ⟨none, 0, rfl, hM⟩
  ·
   have hok : sgE s k (aheadW.getD k 0) = 0 := by rw [← hbk]; exact Decidable.not_not.1 hc4
   have hlk := sgE_lt hok
   refine Ends.skip (Ends.region ?_)
   refine S.val hA (R.move rfl) rfl ?_; clear hA a; intro a hA
   refine S.val hA (R.addI rfl rfl (r := ((k + 1 : Nat) : Int)) (by omega) (by omega)) rfl ?_; clear hA a; intro a hA
   refine S.val hA (R.assign rfl) rfl ?_; clear hA a; intro a hA
   refine S.done ?_
   replace hA : St 172 [(0, _), (2, _), (5, _), (6, _)] a := hA.sub ((.cons rfl (.cons rfl (.cons rfl (.cons rfl .nil)))))
   refine Ends.inBlock (Ends.region ?_)
   refine S.val hA (R.move rfl) rfl ?_; clear hA a; intro a hA
   refine S.val hA (R.addI rfl rfl (r := ((k : Int)) + 1) rfl (by omega)) rfl ?_; clear hA a; intro a hA
   refine S.val hA (R.assign rfl) rfl ?_; clear hA a; intro a hA
   refine S.done ?_
   exact hNext ((k + 1)) _ _ ((by show 5 - (k + 1) < 5 - k; omega)) ⟨hA.sub ((.cons rfl (.cons rfl (.cons rfl (.cons rfl .nil))))), hM, (by omega), (by omega), (by rw [hinv, hdr, sgW, hok, if_neg (by decide)])⟩
 ·
  obtain rfl : k = 5 := by omega
  have hH1 : cH1 s = (5, 0) := hinv
  have f1 : (cH1 s).2 = 0 := by rw [hH1]
  have hn2 : 5 ≤ (cH2 s).2.1 ∧ (cH2 s).2.1 ≤ s.size ∧ (5 < (cH2 s).2.1 ∨ (cH2 s).2.2 ≠ 0) := nm_le hks
  refine Ends.exit rfl ?_
  refine Ends.seq (Ends.region ?_)
  refine S.val hA (R.move rfl) rfl ?_; clear hA a; intro a hA
  refine S.val hA (R.move rfl) rfl ?_; clear hA a; intro a hA
  refine S.call hA (R.callF Tryd.func25 rfl rfl rfl) rfl (rnumber30 s 5 1125899906842624 hs _) ?_; clear hA a
  rintro e w5 ⟨rfl, hb⟩
  replace hM := hM.callB hb; clear hb
  refine ⟨.tuple #[.int .i64 ((cH2 s).1), .int .i64 ((((cH2 s).2.1 : Nat) : Int)), .int .i64 ((cH2 s).2.2)], rfl, fun a hA => ?_⟩
  refine S.val hA (R.move rfl) rfl ?_; clear hA a; intro a hA
  refine S.val hA (R.extract (v := .int .i64 ((cH2 s).1)) rfl rfl) rfl ?_; clear hA a; intro a hA
  refine S.val hA (R.extract (v := .int .i64 ((((cH2 s).2.1 : Nat) : Int))) rfl rfl) rfl ?_; clear hA a; intro a hA
  refine S.val hA (R.extract (v := .int .i64 ((cH2 s).2.2)) rfl rfl) rfl ?_; clear hA a; intro a hA
  refine S.val hA (R.assign rfl) rfl ?_; clear hA a; intro a hA
  refine S.val hA (R.assign rfl) rfl ?_; clear hA a; intro a hA
  refine S.val hA (R.assign rfl) rfl ?_; clear hA a; intro a hA
  refine S.done ?_
  replace hA : St 172 [(0, _), (2, _), (5, _), (8, _), (9, _)] a := hA.sub ((.cons rfl (.cons rfl (.cons rfl (.cons rfl (.cons rfl .nil))))))
  refine Ends.seq (Ends.seq (Ends.region ?_))
  refine S.val hA (R.move rfl) rfl ?_; clear hA a; intro a hA
  refine S.val hA (R.neq rfl rfl) rfl ?_; clear hA a; intro a hA
  refine S.done ?_
  refine Ends.ite hA rfl (fun hc5 => ?_) (fun hc5 => ?_)
  ·
   have hT0 : cHd s = (cH2 s).2 := by unfold cHd; rw [if_neg (not_not_intro f1), if_pos hc5]
   have hT : rdC s = (crz, ((cHd s).1 : Int), (cHd s).2) := if_pos (by rw [hT0]; exact hc5)
   rw [hT0] at hT
   refine Ends.seq (Ends.region ?_)
   refine S.val hA (R.build (cells := #[.int .i64 0, .slice none 0 0, .string (⟨#[]⟩)]) rfl (by kernel_rfl)) rfl ?_; clear hA a; intro a hA
   refine S.val hA (R.move rfl) rfl ?_; clear hA a; intro a hA
   refine S.val hA (R.move rfl) rfl ?_; clear hA a; intro a hA
   refine S.storeA (k := 0) hA hM sz24 rfl rfl rfl rfl rfl rfl ?_; clear hM
   intro w6 hM
   replace hM : Mem _ _ [pt b1 #[.int .i64 0, .slice none 0 0, .string (⟨#[]⟩)] 24] _ := hM
   refine S.val hA (R.assign rfl) rfl ?_; clear hA a; intro a hA
   refine S.val hA (R.assign rfl) rfl ?_; clear hA a; intro a hA
   refine S.done ?_
   replace hA : St 172 [(0, _), (2, _), (3, _), (4, _), (5, _), (8, _)] a := hA.sub ((.cons rfl (.cons rfl (.cons rfl (.cons rfl (.cons rfl (.cons rfl .nil)))))))
   refine Ends.retC3 (k := 0) Tryd.func15 Tryd.results15 hA hM rfl rfl rfl rfl sz24 rfl ?_
   replace hM := hM.nilL.ownNil 3 1
   rw [hT]
   exact ⟨none, 0, rfl, hM⟩
  ·
   have f2 := Decidable.not_not.1 hc5
   refine Ends.skip (Ends.seq (Ends.seq (Ends.region ?_)))
   refine S.val hA (R.move rfl) rfl ?_; clear hA a; intro a hA
   refine S.val hA (R.move rfl) rfl ?_; clear hA a; intro a hA
   refine S.call hA (R.callF Tryd.func24 rfl rfl rfl) rfl (rsign30 s ((cH2 s).2.1) 32 hs _) ?_; clear hA a
   rintro e w7 ⟨rfl, hb⟩
   replace hM := hM.callB hb; clear hb
   refine ⟨.int .i64 (sgE s ((cH2 s).2.1) 32), rfl, fun a hA => ?_⟩
   refine S.val hA (R.assign rfl) rfl ?_; clear hA a; intro a hA
   refine S.done ?_
   replace hA : St 172 [(0, _), (2, _), (5, _), (8, _), (10, _)] a := hA.sub ((.cons rfl (.cons rfl (.cons rfl (.cons rfl (.cons rfl .nil))))))
   refine Ends.seq (Ends.region ?_)
   refine S.val hA (R.move rfl) rfl ?_; clear hA a; intro a hA
   refine S.val hA (R.neq rfl rfl) rfl ?_; clear hA a; intro a hA
   refine S.done ?_
   refine Ends.ite hA rfl (fun hc6 => ?_) (fun hc6 => ?_)
   ·
    have hT0 : cHd s = ((cH2 s).2.1, sgE s (cH2 s).2.1 32) := by unfold cHd; rw [if_neg (not_not_intro f1), if_neg (not_not_intro f2), if_pos hc6]
    have hT : rdC s = (crz, ((cHd s).1 : Int), (cHd s).2) := if_pos (by rw [hT0]; exact hc6)
    rw [hT0] at hT
    refine Ends.seq (Ends.region ?_)
    refine S.val hA (R.build (cells := #[.int .i64 0, .slice none 0 0, .string (⟨#[]⟩)]) rfl (by kernel_rfl)) rfl ?_; clear hA a; intro a hA
    refine S.val hA (R.move rfl) rfl ?_; clear hA a; intro a hA
    refine S.val hA (R.move rfl) rfl ?_; clear hA a; intro a hA
    refine S.storeA (k := 0) hA hM sz24 rfl rfl rfl rfl rfl rfl ?_; clear hM
    intro w8 hM
    replace hM : Mem _ _ [pt b1 #[.int .i64 0, .slice none 0 0, .string (⟨#[]⟩)] 24] _ := hM
    refine S.val hA (R.assign rfl) rfl ?_; clear hA a; intro a hA
    refine S.val hA (R.assign rfl) rfl ?_; clear hA a; intro a hA
    refine S.done ?_
    replace hA : St 172 [(0, _), (2, _), (3, _), (4, _), (5, _), (8, _)] a := hA.sub ((.cons rfl (.cons rfl (.cons rfl (.cons rfl (.cons rfl (.cons rfl .nil)))))))
    refine Ends.retC3 (k := 0) Tryd.func15 Tryd.results15 hA hM rfl rfl rfl rfl sz24 rfl ?_
    replace hM := hM.nilL.ownNil 3 1
    rw [hT]
    exact ⟨none, 0, rfl, hM⟩
   ·
    have f3 := Decidable.not_not.1 hc6
    have k3 := sgE_lt f3
    have hn3 : (cH2 s).2.1 + 1 ≤ (cH3 s).2.1 ∧ (cH3 s).2.1 ≤ s.size ∧ ((cH2 s).2.1 + 1 < (cH3 s).2.1 ∨ (cH3 s).2.2 ≠ 0) := nm_le (by omega)
    refine Ends.skip (Ends.seq (Ends.region ?_))
    refine S.val hA (R.move rfl) rfl ?_; clear hA a; intro a hA
    refine S.val hA (R.addI rfl rfl (r := (((cH2 s).2.1 + 1 : Nat) : Int)) (by omega) (by omega)) rfl ?_; clear hA a; intro a hA
    refine S.val hA (R.assign rfl) rfl ?_; clear hA a; intro a hA
    refine S.done ?_
    replace hA : St 172 [(0, _), (2, _), (8, _), (11, _)] a := hA.sub ((.cons rfl (.cons rfl (.cons rfl (.cons rfl .nil)))))
    refine Ends.seq (Ends.region ?_)
    refine S.val hA (R.move rfl) rfl ?_; clear hA a; intro a hA
    refine S.val hA (R.move rfl) rfl ?_; clear hA a; intro a hA
    refine S.call hA (R.callF Tryd.func25 rfl rfl rfl) rfl (rnumber30 s ((cH2 s).2.1 + 1) 64 hs _) ?_; clear hA a
    rintro e w9 ⟨rfl, hb⟩
    replace hM := hM.callB hb; clear hb
    refine ⟨.tuple #[.int .i64 ((cH3 s).1), .int .i64 ((((cH3 s).2.1 : Nat) : Int)), .int .i64 ((cH3 s).2.2)], rfl, fun a hA => ?_⟩
    refine S.val hA (R.move rfl) rfl ?_; clear hA a; intro a hA
    refine S.val hA (R.extract (v := .int .i64 ((cH3 s).1)) rfl rfl) rfl ?_; clear hA a; intro a hA
    refine S.val hA (R.extract (v := .int .i64 ((((cH3 s).2.1 : Nat) : Int))) rfl rfl) rfl ?_; clear hA a; intro a hA
    refine S.val hA (R.extract (v := .int .i64 ((cH3 s).2.2)) rfl rfl) rfl ?_; clear hA a; intro a hA
    refine S.val hA (R.assign rfl) rfl ?_; clear hA a; intro a hA
    refine S.val hA (R.assign rfl) rfl ?_; clear hA a; intro a hA
    refine S.val hA (R.assign rfl) rfl ?_; clear hA a; intro a hA
    refine S.done ?_
    replace hA : St 172 [(0, _), (2, _), (5, _), (8, _), (9, _), (11, _), (12, _)] a := hA.sub ((.cons rfl (.cons rfl (.cons rfl (.cons rfl (.cons rfl (.cons rfl (.cons rfl .nil))))))))
    refine Ends.seq (Ends.seq (Ends.region ?_))
    refine S.val hA (R.move rfl) rfl ?_; clear hA a; intro a hA
    refine S.val hA (R.neq rfl rfl) rfl ?_; clear hA a; intro a hA
    refine S.done ?_
    refine Ends.ite hA rfl (fun hc7 => ?_) (fun hc7 => ?_)
    ·
     have hT0 : cHd s = (cH3 s).2 := by unfold cHd; rw [if_neg (not_not_intro f1), if_neg (not_not_intro f2), if_neg (not_not_intro f3), if_pos hc7]
     have hT : rdC s = (crz, ((cHd s).1 : Int), (cHd s).2) := if_pos (by rw [hT0]; exact hc7)
     rw [hT0] at hT
     refine Ends.seq (Ends.region ?_)
     refine S.val hA (R.build (cells := #[.int .i64 0, .slice none 0 0, .string (⟨#[]⟩)]) rfl (by kernel_rfl)) rfl ?_; clear hA a; intro a hA
     refine S.val hA (R.move rfl) rfl ?_; clear hA a; intro a hA
     refine S.val hA (R.move rfl) rfl ?_; clear hA a; intro a hA
     refine S.storeA (k := 0) hA hM sz24 rfl rfl rfl rfl rfl rfl ?_; clear hM
     intro w10 hM
     replace hM : Mem _ _ [pt b1 #[.int .i64 0, .slice none 0 0, .string (⟨#[]⟩)] 24] _ := hM
     refine S.val hA (R.assign rfl) rfl ?_; clear hA a; intro a hA
     refine S.val hA (R.assign rfl) rfl ?_; clear hA a; intro a hA
     refine S.done ?_
     replace hA : St 172 [(0, _), (2, _), (3, _), (4, _), (5, _), (8, _), (11, _), (12, _)] a := hA.sub ((.cons rfl (.cons rfl (.cons rfl (.cons rfl (.cons rfl (.cons rfl (.cons rfl (.cons rfl .nil)))))))))
     refine Ends.retC3 (k := 0) Tryd.func15 Tryd.results15 hA hM rfl rfl rfl rfl sz24 rfl ?_
     replace hM := hM.nilL.ownNil 3 1
     rw [hT]
     exact ⟨none, 0, rfl, hM⟩
    ·
     have f4 := Decidable.not_not.1 hc7
     refine Ends.skip (Ends.seq (Ends.seq (Ends.region ?_)))
     refine S.val hA (R.move rfl) rfl ?_; clear hA a; intro a hA
     refine S.val hA (R.eql rfl rfl) rfl ?_; clear hA a; intro a hA
     refine S.done ?_
     replace hA : St 172 [(0, _), (2, _), (5, _), (8, _), (11, _), (12, _), (70, _)] a := hA.sub ((.cons rfl (.cons rfl (.cons rfl (.cons rfl (.cons rfl (.cons rfl (.cons rfl .nil))))))))
     refine Ends.ite hA rfl (fun hc8 => ?_) (fun hc8 => ?_)
     ·
      have hT0 : cHd s = ((cH2 s).2.1 + 1, 1) := by unfold cHd; rw [if_neg (not_not_intro f1), if_neg (not_not_intro f2), if_neg (not_not_intro f3), if_neg (not_not_intro f4), if_pos hc8]
      have hT : rdC s = (crz, ((cHd s).1 : Int), (cHd s).2) := if_pos (by rw [hT0]; exact (fun h9 => absurd (show (1 : Int) = 0 from h9) (by decide)))
      rw [hT0] at hT
      refine Ends.seq (Ends.region ?_)
      refine S.val hA (R.build (cells := #[.int .i64 0, .slice none 0 0, .string (⟨#[]⟩)]) rfl (by kernel_rfl)) rfl ?_; clear hA a; intro a hA
      refine S.val hA (R.move rfl) rfl ?_; clear hA a; intro a hA
      refine S.storeA (k := 0) hA hM sz24 rfl rfl rfl rfl rfl rfl ?_; clear hM
      intro w11 hM
      replace hM : Mem _ _ [pt b1 #[.int .i64 0, .slice none 0 0, .string (⟨#[]⟩)] 24] _ := hM
      refine S.val hA (R.assign rfl) rfl ?_; clear hA a; intro a hA
      refine S.val hA (R.assign rfl) rfl ?_; clear hA a; intro a hA
      refine S.done ?_
      replace hA : St 172 [(0, _), (2, _), (3, _), (4, _), (5, _), (8, _), (12, _)] a := hA.sub ((.cons rfl (.cons rfl (.cons rfl (.cons rfl (.cons rfl (.cons rfl (.cons rfl .nil))))))))
      refine Ends.retC3 (k := 0) Tryd.func15 Tryd.results15 hA hM rfl rfl rfl rfl sz24 rfl ?_
      replace hM := hM.nilL.ownNil 3 1
      rw [hT]
      exact ⟨none, 0, rfl, hM⟩
     ·
      have f5 : ¬ (cH3 s).1 = 0 := hc8
      refine Ends.skip (Ends.seq (Ends.seq (Ends.region ?_)))
      refine S.val hA (R.move rfl) rfl ?_; clear hA a; intro a hA
      refine S.val hA (R.move rfl) rfl ?_; clear hA a; intro a hA
      refine S.call hA (R.callF Tryd.func24 rfl rfl rfl) rfl (rsign30 s ((cH3 s).2.1) 10 hs _) ?_; clear hA a
      rintro e w12 ⟨rfl, hb⟩
      replace hM := hM.callB hb; clear hb
      refine ⟨.int .i64 (sgE s ((cH3 s).2.1) 10), rfl, fun a hA => ?_⟩
      refine S.val hA (R.assign rfl) rfl ?_; clear hA a; intro a hA
      refine S.done ?_
      replace hA : St 172 [(0, _), (2, _), (5, _), (8, _), (12, _), (13, _)] a := hA.sub ((.cons rfl (.cons rfl (.cons rfl (.cons rfl (.cons rfl (.cons rfl .nil)))))))
      refine Ends.seq (Ends.region ?_)
      refine S.val hA (R.move rfl) rfl ?_; clear hA a; intro a hA
      refine S.val hA (R.neq rfl rfl) rfl ?_; clear hA a; intro a hA
      refine S.done ?_
      refine Ends.ite hA rfl (fun hc9 => ?_) (fun hc9 => ?_)
      ·
       have hT0 : cHd s = ((cH3 s).2.1, sgE s (cH3 s).2.1 10) := by unfold cHd; rw [if_neg (not_not_intro f1), if_neg (not_not_intro f2), if_neg (not_not_intro f3), if_neg (not_not_intro f4), if_neg f5, if_pos hc9]
       have hT : rdC s = (crz, ((cHd s).1 : Int), (cHd s).2) := if_pos (by rw [hT0]; exact hc9)
       rw [hT0] at hT
       refine Ends.seq (Ends.region ?_)
       refine S.val hA (R.build (cells := #[.int .i64 0, .slice none 0 0, .string (⟨#[]⟩)]) rfl (by kernel_rfl)) rfl ?_; clear hA a; intro a hA
       refine S.val hA (R.move rfl) rfl ?_; clear hA a; intro a hA
       refine S.val hA (R.move rfl) rfl ?_; clear hA a; intro a hA
       refine S.storeA (k := 0) hA hM sz24 rfl rfl rfl rfl rfl rfl ?_; clear hM
       intro w13 hM
       replace hM : Mem _ _ [pt b1 #[.int .i64 0, .slice none 0 0, .string (⟨#[]⟩)] 24] _ := hM
       refine S.val hA (R.assign rfl) rfl ?_; clear hA a; intro a hA
       refine S.val hA (R.assign rfl) rfl ?_; clear hA a; intro a hA
       refine S.done ?_
       replace hA : St 172 [(0, _), (2, _), (3, _), (4, _), (5, _), (8, _), (12, _)] a := hA.sub ((.cons rfl (.cons rfl (.cons rfl (.cons rfl (.cons rfl (.cons rfl (.cons rfl .nil))))))))
       refine Ends.retC3 (k := 0) Tryd.func15 Tryd.results15 hA hM rfl rfl rfl rfl sz24 rfl ?_
       replace hM := hM.nilL.ownNil 3 1
       rw [hT]
       exact ⟨none, 0, rfl, hM⟩
      ·
       have f6 := Decidable.not_not.1 hc9
       have hHd : cHd s = ((cH3 s).2.1 + 1, 0) := by unfold cHd; rw [if_neg (not_not_intro f1), if_neg (not_not_intro f2), if_neg (not_not_intro f3), if_neg (not_not_intro f4), if_neg f5, if_neg (not_not_intro f6)]
       have hz1 : (cHd s).2 = 0 := by rw [hHd]
       have hnn := cHd_n hz1
       have hle1 := cHd_le s hz1
       obtain ⟨n, hn⟩ : ∃ n : Nat, (cH3 s).1 = (n : Int) := ⟨(cH3 s).1.toNat, by omega⟩
       obtain ⟨p, hp⟩ : ∃ p, p = (cH3 s).2.1 + 1 := ⟨_, rfl⟩
       have hcN : cN s = cNb s n p n := by unfold cN; rw [hn, hHd, Int.toNat_natCast, hp]
       have hps : p ≤ s.size := by rw [hHd] at hle1; rw [hp]; exact hle1
       rw [hn] at hA
       refine Ends.skip (Ends.seq (Ends.region ?_))
       refine S.val hA (R.move rfl) rfl ?_; clear hA a; intro a hA
       refine S.val hA (R.build (cells := #[.int .i64 ((cH2 s).1), .slice none 0 0, .string (⟨#[]⟩)]) rfl (by kernel_rfl)) rfl ?_; clear hA a; intro a hA
       refine S.alloc hA hM info24 rfl rfl ?_; clear hA hM a; intro b10 w14 hb11 hM a hA
       replace hM : Mem _ _ [pt b10 #[.int .i64 0, .slice none 0 0, .string (⟨#[]⟩)] 24, pt b1 #[.int .i64 0, .slice none 0 0, .string (⟨#[]⟩)] 24] _ := hM
       refine S.storeA (k := 0) hA hM sz24 rfl rfl rfl rfl rfl rfl ?_; clear hM
       intro w15 hM
       replace hM : Mem _ _ [pt b10 #[.int .i64 ((cH2 s).1), .slice none 0 0, .string (⟨#[]⟩)] 24, pt b1 #[.int .i64 0, .slice none 0 0, .string (⟨#[]⟩)] 24] _ := hM
       refine S.done ?_
       replace hA : St 172 [(0, _), (2, _), (5, _), (12, _), (14, _)] a := hA.sub ((.cons rfl (.cons rfl (.cons rfl (.cons rfl (.cons rfl .nil))))))
       refine Ends.seq (Ends.seq (Ends.region ?_))
       refine S.val hA (R.assign rfl) rfl ?_; clear hA a; intro a hA
       refine S.done ?_
       refine Ends.block ?_
       replace hM := hM.ownNil 3 1
       replace hM : Mem _ _ [own 3 1 (.slice none ((([] : List Int)).length) 0) ((([] : List Int)).length) ((([] : List Int)).map (Value.int .i64)), pt b10 #[.int .i64 ((cH2 s).1), .slice none 0 0, .string (⟨#[]⟩)] 24, pt b1 #[.int .i64 0, .slice none 0 0, .string (⟨#[]⟩)] 24] _ := hM
       replace hM := hM.front (k := 2) rfl
       replace hM := hM.front (k := 1) rfl
       replace hM := hM.front (k := 2) rfl
       replace hM : Mem _ _ [pt b10 #[.int .i64 ((cH2 s).1), .slice none ((cNb s n p 0).1.length) 0, .string (⟨#[]⟩)] 24, own 3 1 (.slice none (((cNb s n p 0).1).length) 0) (((cNb s n p 0).1).length) (((cNb s n p 0).1).map (Value.int .i64)), pt b1 #[.int .i64 0, .slice none 0 0, .string (⟨#[]⟩)] 24] _ := hM
       rw [show (((cH3 s).2.1 : Nat) : Int) = ((cNb s n p 0).2.1 : Int) - 1 by show _ = (p : Int) - 1; omega] at hA
       refine Ends.loop (σ := Nat × Option Addr × Nat) (fun (k, oa, oc) (a : Act) (wv : World) => St 172 [(0, .string s), (2, .pointer (some ⟨b1, 0, none⟩)), (5, .int .i64 (((cNb s n p k).2.1 : Int) - 1)), (12, .int .i64 ((n : Int))), (14, .pointer (some ⟨b10, 0, none⟩)), (15, .int .i64 ((k : Int)))] a ∧ Mem w nof [pt b10 #[.int .i64 ((cH2 s).1), .slice oa ((cNb s n p k).1.length) oc, .string (⟨#[]⟩)] 24, own 3 1 (.slice oa (((cNb s n p k).1).length) oc) (((cNb s n p k).1).length) (((cNb s n p k).1).map (Value.int .i64)), pt b1 #[.int .i64 0, .slice none 0 0, .string (⟨#[]⟩)] 24] wv ∧ (k ≤ n) ∧ ((cNb s n p k).2.2 = 0) ∧ ((cNb s n p k).2.1 ≤ s.size)) (fun (k, oa, oc) => n - k) ((0, none, 0)) ⟨hA.sub ((.cons rfl (.cons rfl (.cons rfl (.cons rfl (.cons rfl (.cons rfl .nil))))))), hM, (Nat.zero_le _), rfl, hps⟩ ?_
       clear hA hM a
       rintro ⟨k, oa, oc⟩ a w16 ⟨hA, hM, hk, hz, hq⟩ hNext1
       refine Ends.seq (Ends.seq (Ends.region ?_))
       refine S.val hA (R.move rfl) rfl ?_; clear hA a; intro a hA
       refine S.val hA (R.move rfl) rfl ?_; clear hA a; intro a hA
       refine S.val hA (R.lss rfl rfl) rfl ?_; clear hA a; intro a hA
       refine S.done ?_
       refine Ends.ite hA rfl (fun hc12 => ?_) (fun hc12 => ?_)
       ·
        have hlk := cNb_len s n p k hz
        refine Ends.skip (Ends.seq (Ends.block (Ends.seq (Ends.region ?_))))
        refine S.val hA (R.assign rfl) rfl ?_; clear hA a; intro a hA
        refine S.done ?_
        replace hA : St 172 [(0, _), (2, _), (5, _), (12, _), (14, _), (15, _)] a := hA.sub ((.cons rfl (.cons rfl (.cons rfl (.cons rfl (.cons rfl (.cons rfl .nil)))))))
        refine Ends.seq ?_
        have hnl := nm_le (s := s) (p := (cNb s n p k).2.1) (most := 999) hq
        refine Ends.region ?_
        refine S.val hA (R.move rfl) rfl ?_; clear hA a; intro a hA
        refine S.val hA (R.move rfl) rfl ?_; clear hA a; intro a hA
        refine S.val hA (R.addI rfl rfl (r := (((cNb s n p k).2.1 : Nat) : Int)) (by omega) (by omega)) rfl ?_; clear hA a; intro a hA
        refine S.call hA (R.callF Tryd.func25 rfl rfl rfl) rfl (rnumber30 s ((cNb s n p k).2.1) 999 hs _) ?_; clear hA a
        rintro e w17 ⟨rfl, hb⟩
        replace hM := hM.callB hb; clear hb
        refine ⟨.tuple #[.int .i64 ((nmE s ((cNb s n p k).2.1) 999).1), .int .i64 ((((nmE s ((cNb s n p k).2.1) 999).2.1 : Nat) : Int)), .int .i64 ((nmE s ((cNb s n p k).2.1) 999).2.2)], rfl, fun a hA => ?_⟩
        refine S.val hA (R.move rfl) rfl ?_; clear hA a; intro a hA
        refine S.val hA (R.extract (v := .int .i64 ((nmE s ((cNb s n p k).2.1) 999).1)) rfl rfl) rfl ?_; clear hA a; intro a hA
        refine S.val hA (R.extract (v := .int .i64 ((((nmE s ((cNb s n p k).2.1) 999).2.1 : Nat) : Int))) rfl rfl) rfl ?_; clear hA a; intro a hA
        refine S.val hA (R.extract (v := .int .i64 ((nmE s ((cNb s n p k).2.1) 999).2.2)) rfl rfl) rfl ?_; clear hA a; intro a hA
        refine S.val hA (R.assign rfl) rfl ?_; clear hA a; intro a hA
        refine S.val hA (R.assign rfl) rfl ?_; clear hA a; intro a hA
        refine S.val hA (R.assign rfl) rfl ?_; clear hA a; intro a hA
        refine S.done ?_
        replace hA : St 172 [(0, _), (2, _), (5, _), (9, _), (12, _), (14, _), (15, _), (16, _)] a := hA.sub ((.cons rfl (.cons rfl (.cons rfl (.cons rfl (.cons rfl (.cons rfl (.cons rfl (.cons rfl .nil)))))))))
        refine Ends.seq (Ends.seq (Ends.region ?_))
        refine S.val hA (R.move rfl) rfl ?_; clear hA a; intro a hA
        refine S.val hA (R.neq rfl rfl) rfl ?_; clear hA a; intro a hA
        refine S.done ?_
        refine Ends.ite hA rfl (fun hc13 => ?_) (fun hc13 => ?_)
        ·
         have hT : (cNb s n p (k + 1)) = ([], (nmE s (cNb s n p k).2.1 999).2) := by rw [cNb, if_neg (not_not_intro hz), if_pos hc13]
         have hTd := cNb_stuck (s := s) (n := n) (p := p) (k := k + 1) (by rw [hT]; exact hc13) (n - (k + 1))
         rw [show k + 1 + (n - (k + 1)) = n by omega, hT] at hTd
         have hT : rdC s = (crz, ((cN s).2.1 : Int), (cN s).2.2) := by unfold rdC; rw [if_neg (not_not_intro hz1), if_pos (by rw [hcN, hTd]; exact hc13)]
         rw [hcN, hTd] at hT
         refine Ends.seq (Ends.region ?_)
         refine S.val hA (R.build (cells := #[.int .i64 0, .slice none 0 0, .string (⟨#[]⟩)]) rfl (by kernel_rfl)) rfl ?_; clear hA a; intro a hA
         refine S.val hA (R.move rfl) rfl ?_; clear hA a; intro a hA
         refine S.val hA (R.move rfl) rfl ?_; clear hA a; intro a hA
         refine S.storeA (k := 2) hA hM sz24 rfl rfl rfl rfl rfl rfl ?_; clear hM
         intro w18 hM
         replace hM : Mem _ _ [pt b10 #[.int .i64 ((cH2 s).1), .slice oa ((cNb s n p k).1.length) oc, .string (⟨#[]⟩)] 24, own 3 1 (.slice oa (((cNb s n p k).1).length) oc) (((cNb s n p k).1).length) (((cNb s n p k).1).map (Value.int .i64)), pt b1 #[.int .i64 0, .slice none 0 0, .string (⟨#[]⟩)] 24] _ := hM
         refine S.val hA (R.assign rfl) rfl ?_; clear hA a; intro a hA
         refine S.val hA (R.assign rfl) rfl ?_; clear hA a; intro a hA
         refine S.done ?_
         replace hA : St 172 [(0, _), (2, _), (3, _), (4, _), (5, _), (12, _), (14, _), (15, _), (16, _)] a := hA.sub ((.cons rfl (.cons rfl (.cons rfl (.cons rfl (.cons rfl (.cons rfl (.cons rfl (.cons rfl (.cons rfl .nil))))))))))
         refine Ends.retC3 (k := 2) Tryd.func15 Tryd.results15 hA hM rfl rfl rfl rfl sz24 rfl ?_
         replace hM := hM.nilL.ownNil 3 1
         rw [hT]
         exact ⟨none, 0, rfl, hM⟩
        ·
         have hz2 := Decidable.not_not.1 hc13
         refine Ends.skip (Ends.seq (Ends.region ?_))
         refine S.val hA (R.fieldAddr (q := 1) fi24_1 rfl rfl rfl) rfl ?_; clear hA a; intro a hA
         refine S.val hA (R.load sz22 rfl (hM.cell (k := 0) rfl rfl)) rfl ?_; clear hA a; intro a hA
         refine S.val hA (R.move rfl) rfl ?_; clear hA a; intro a hA
         refine S.buildSl (cells := #[.int .i64 ((nmE s ((cNb s n p k).2.1) 999).1)]) hA hM Tryd.underlying22 info3 rfl rfl rfl rfl (by kernel_rfl) rfl ?_; clear hA hM a; intro b14 w19 hb15 hM a hA
         replace hM : Mem _ _ [pt b14 #[.int .i64 ((nmE s ((cNb s n p k).2.1) 999).1)] 3, pt b10 #[.int .i64 ((cH2 s).1), .slice oa ((cNb s n p k).1.length) oc, .string (⟨#[]⟩)] 24, own 3 1 (.slice oa (((cNb s n p k).1).length) oc) (((cNb s n p k).1).length) (((cNb s n p k).1).map (Value.int .i64)), pt b1 #[.int .i64 0, .slice none 0 0, .string (⟨#[]⟩)] 24] _ := hM
         refine S.append (k := 2) (k2 := 0) hA hM rfl rfl Tryd.underlying22 info3 rfl rfl rfl rfl rfl rfl rfl rfl rfl (by first | (unfold maxLen; omega) | (show (_ + 1) * 8 ≤ (140737488355328 : Nat); omega) | omega) (by first | (unfold maxLen; omega) | (show (_ + 1) * 8 ≤ (140737488355328 : Nat); omega) | omega) rfl ?_; clear hA hM a; intro a16 c17 w20 hM a hA
         replace hM : Mem _ _ [pt b14 #[.int .i64 ((nmE s ((cNb s n p k).2.1) 999).1)] 3, pt b10 #[.int .i64 ((cH2 s).1), .slice oa ((cNb s n p k).1.length) oc, .string (⟨#[]⟩)] 24, own 3 1 (.slice a16 ((((cNb s n p k).1).length) + 1) c17) ((((cNb s n p k).1).length) + 1) (((cNb s n p k).1).map (Value.int .i64) ++ [.int .i64 ((nmE s ((cNb s n p k).2.1) 999).1)]), pt b1 #[.int .i64 0, .slice none 0 0, .string (⟨#[]⟩)] 24] _ := hM
         have hl18 : (((cNb s n p k).1).length) + 1 = ((cNb s n p k).1 ++ [(nmE s ((cNb s n p k).2.1) 999).1]).length := by simp
         rw [hl18, show ((cNb s n p k).1).map (Value.int .i64) ++ [.int .i64 ((nmE s ((cNb s n p k).2.1) 999).1)] = ((cNb s n p k).1 ++ [(nmE s ((cNb s n p k).2.1) 999).1]).map (Value.int .i64) by simp] at hM; rw [hl18] at hA
         clear hl18
         replace hM := hM.drop 0
         replace hM : Mem _ _ [pt b10 #[.int .i64 ((cH2 s).1), .slice oa ((cNb s n p k).1.length) oc, .string (⟨#[]⟩)] 24, own 3 1 (.slice a16 ((((cNb s n p k).1 ++ [(nmE s ((cNb s n p k).2.1) 999).1])).length) c17) ((((cNb s n p k).1 ++ [(nmE s ((cNb s n p k).2.1) 999).1])).length) ((((cNb s n p k).1 ++ [(nmE s ((cNb s n p k).2.1) 999).1])).map (Value.int .i64)), pt b1 #[.int .i64 0, .slice none 0 0, .string (⟨#[]⟩)] 24] _ := hM
         refine S.val hA (R.fieldAddr (q := 1) fi24_1 rfl rfl rfl) rfl ?_; clear hA a; intro a hA
         refine S.store (k := 0) hA hM sz22 rfl rfl rfl rfl rfl ?_; clear hM
         intro w21 hM
         replace hM : Mem _ _ [pt b10 #[.int .i64 ((cH2 s).1), .slice a16 ((((cNb s n p k).1 ++ [(nmE s ((cNb s n p k).2.1) 999).1])).length) c17, .string (⟨#[]⟩)] 24, own 3 1 (.slice a16 ((((cNb s n p k).1 ++ [(nmE s ((cNb s n p k).2.1) 999).1])).length) c17) ((((cNb s n p k).1 ++ [(nmE s ((cNb s n p k).2.1) 999).1])).length) ((((cNb s n p k).1 ++ [(nmE s ((cNb s n p k).2.1) 999).1])).map (Value.int .i64)), pt b1 #[.int .i64 0, .slice none 0 0, .string (⟨#[]⟩)] 24] _ := hM
         refine S.done ?_
         replace hA : St 172 [(0, _), (2, _), (5, _), (12, _), (14, _), (15, _)] a := hA.sub ((.cons rfl (.cons rfl (.cons rfl (.cons rfl (.cons rfl (.cons rfl .nil)))))))
         refine Ends.seq (Ends.region ?_)
         refine S.val hA (R.assign rfl) rfl ?_; clear hA a; intro a hA
         refine S.done ?_
         refine Ends.seq (Ends.seq (Ends.region ?_))
         refine S.val hA (R.move rfl) rfl ?_; clear hA a; intro a hA
         refine S.val hA (R.move rfl) rfl ?_; clear hA a; intro a hA
         refine S.val hA (R.subI rfl rfl (r := ((n : Int)) - 1) rfl (by omega)) rfl ?_; clear hA a; intro a hA
         refine S.val hA (R.eql rfl rfl) rfl ?_; clear hA a; intro a hA
         refine S.done ?_
         refine Ends.ite hA rfl (fun hc19 => ?_) (fun hc19 => ?_)
         ·
          have hbh : bhd n k = 10 := by unfold bhd; rw [if_pos (by omega)]
          refine Ends.region ?_
          refine S.val hA (R.assign rfl) rfl ?_; clear hA a; intro a hA
          refine S.done ?_
          replace hA : St 172 [(0, _), (2, _), (5, _), (12, _), (14, _), (15, _), (17, _)] a := hA.sub ((.cons rfl (.cons rfl (.cons rfl (.cons rfl (.cons rfl (.cons rfl (.cons rfl .nil))))))))
          refine Ends.seq (Ends.region ?_)
          refine S.val hA (R.move rfl) rfl ?_; clear hA a; intro a hA
          refine S.val hA (R.move rfl) rfl ?_; clear hA a; intro a hA
          refine S.val hA (R.move rfl) rfl ?_; clear hA a; intro a hA
          refine S.call hA (R.callF Tryd.func24 rfl rfl rfl) rfl (rsign30 s ((nmE s ((cNb s n p k).2.1) 999).2.1) 10 hs _) ?_; clear hA a
          rintro e w22 ⟨rfl, hb⟩
          replace hM := hM.callB hb; clear hb
          refine ⟨.int .i64 (sgE s ((nmE s ((cNb s n p k).2.1) 999).2.1) 10), rfl, fun a hA => ?_⟩
          refine S.val hA (R.assign rfl) rfl ?_; clear hA a; intro a hA
          refine S.done ?_
          replace hA : St 172 [(0, _), (2, _), (5, _), (12, _), (14, _), (15, _), (18, _)] a := hA.sub ((.cons rfl (.cons rfl (.cons rfl (.cons rfl (.cons rfl (.cons rfl (.cons rfl .nil))))))))
          refine Ends.seq (Ends.region ?_)
          refine S.val hA (R.move rfl) rfl ?_; clear hA a; intro a hA
          refine S.val hA (R.neq rfl rfl) rfl ?_; clear hA a; intro a hA
          refine S.done ?_
          refine Ends.ite hA rfl (fun hc20 => ?_) (fun hc20 => ?_)
          ·
           have hs3 : sgE s (nmE s (cNb s n p k).2.1 999).2.1 (bhd n k) ≠ 0 := by rw [hbh]; exact hc20
           have hT : (cNb s n p (k + 1)) = ([], (nmE s (cNb s n p k).2.1 999).2.1, sgE s (nmE s (cNb s n p k).2.1 999).2.1 (bhd n k)) := by rw [cNb, if_neg (not_not_intro hz), if_neg (not_not_intro hz2), if_pos hs3]
           have hTd := cNb_stuck (s := s) (n := n) (p := p) (k := k + 1) (by rw [hT]; exact hs3) (n - (k + 1))
           rw [show k + 1 + (n - (k + 1)) = n by omega, hT] at hTd
           rw [hbh] at hTd hs3
           have hT : rdC s = (crz, ((cN s).2.1 : Int), (cN s).2.2) := by unfold rdC; rw [if_neg (not_not_intro hz1), if_pos (by rw [hcN, hTd]; exact hs3)]
           rw [hcN, hTd] at hT
           refine Ends.seq (Ends.region ?_)
           refine S.val hA (R.build (cells := #[.int .i64 0, .slice none 0 0, .string (⟨#[]⟩)]) rfl (by kernel_rfl)) rfl ?_; clear hA a; intro a hA
           refine S.val hA (R.move rfl) rfl ?_; clear hA a; intro a hA
           refine S.val hA (R.move rfl) rfl ?_; clear hA a; intro a hA
           refine S.storeA (k := 2) hA hM sz24 rfl rfl rfl rfl rfl rfl ?_; clear hM
           intro w23 hM
           replace hM : Mem _ _ [pt b10 #[.int .i64 ((cH2 s).1), .slice a16 ((((cNb s n p k).1 ++ [(nmE s ((cNb s n p k).2.1) 999).1])).length) c17, .string (⟨#[]⟩)] 24, own 3 1 (.slice a16 ((((cNb s n p k).1 ++ [(nmE s ((cNb s n p k).2.1) 999).1])).length) c17) ((((cNb s n p k).1 ++ [(nmE s ((cNb s n p k).2.1) 999).1])).length) ((((cNb s n p k).1 ++ [(nmE s ((cNb s n p k).2.1) 999).1])).map (Value.int .i64)), pt b1 #[.int .i64 0, .slice none 0 0, .string (⟨#[]⟩)] 24] _ := hM
           refine S.val hA (R.assign rfl) rfl ?_; clear hA a; intro a hA
           refine S.val hA (R.assign rfl) rfl ?_; clear hA a; intro a hA
           refine S.done ?_
           replace hA : St 172 [(0, _), (2, _), (3, _), (4, _), (5, _), (12, _), (14, _), (15, _)] a := hA.sub ((.cons rfl (.cons rfl (.cons rfl (.cons rfl (.cons rfl (.cons rfl (.cons rfl (.cons rfl .nil)))))))))
           refine Ends.retC3 (k := 2) Tryd.func15 Tryd.results15 hA hM rfl rfl rfl rfl sz24 rfl ?_
           replace hM := hM.nilL.ownNil 3 1
           rw [hT]
           exact ⟨none, 0, rfl, hM⟩
          ·
           have hs3 : sgE s (nmE s (cNb s n p k).2.1 999).2.1 (bhd n k) = 0 := by rw [hbh]; exact Decidable.not_not.1 hc20
           have hT : (cNb s n p (k + 1)) = ((cNb s n p k).1 ++ [(nmE s (cNb s n p k).2.1 999).1], (nmE s (cNb s n p k).2.1 999).2.1 + 1, 0) := by rw [cNb, if_neg (not_not_intro hz), if_neg (not_not_intro hz2), if_neg (not_not_intro hs3)]
           have hq3 := sgE_lt hs3
           rw [hbh] at hs3
           refine Ends.skip (Ends.inBlock (Ends.region ?_))
           refine S.val hA (R.move rfl) rfl ?_; clear hA a; intro a hA
           refine S.val hA (R.addI rfl rfl (r := ((k : Int)) + 1) rfl (by omega)) rfl ?_; clear hA a; intro a hA
           refine S.val hA (R.assign rfl) rfl ?_; clear hA a; intro a hA
           refine S.done ?_
           replace hA : St 172 [(0, _), (2, _), (5, _), (12, _), (14, _), (15, _)] a := hA.sub ((.cons rfl (.cons rfl (.cons rfl (.cons rfl (.cons rfl (.cons rfl .nil)))))))
           replace hM := hM.front (k := 2) rfl
           replace hM := hM.front (k := 2) rfl
           replace hM := hM.front (k := 2) rfl
           replace hM := hM.firstN 3
           rw [show ((cNb s n p k).1 ++ [(nmE s ((cNb s n p k).2.1) 999).1]) = (cNb s n p (k + 1)).1 by rw [hT]] at hM
           rw [show (((nmE s ((cNb s n p k).2.1) 999).2.1 : Nat) : Int) = ((cNb s n p (k + 1)).2.1 : Int) - 1 by rw [hT]; show _ = (((nmE s (cNb s n p k).2.1 999).2.1 + 1 : Nat) : Int) - 1; omega] at hA
           replace hM : Mem _ _ [pt b10 #[.int .i64 ((cH2 s).1), .slice a16 ((cNb s n p (k + 1)).1.length) c17, .string (⟨#[]⟩)] 24, own 3 1 (.slice a16 (((cNb s n p (k + 1)).1).length) c17) (((cNb s n p (k + 1)).1).length) (((cNb s n p (k + 1)).1).map (Value.int .i64)), pt b1 #[.int .i64 0, .slice none 0 0, .string (⟨#[]⟩)] 24] _ := hM
           exact hNext1 ((k + 1, a16, c17)) _ _ ((by show n - (k + 1) < n - k; omega)) ⟨hA.sub ((.cons rfl (.cons rfl (.cons rfl (.cons rfl (.cons rfl (.cons rfl .nil))))))), hM, (by omega), (by rw [hT]), (by rw [hT]; simp only; omega)⟩
         ·
          have hbh : bhd n k = 32 := by unfold bhd; rw [if_neg (by omega)]
          refine Ends.skip (Ends.seq (Ends.region ?_))
          refine S.val hA (R.move rfl) rfl ?_; clear hA a; intro a hA
          refine S.val hA (R.move rfl) rfl ?_; clear hA a; intro a hA
          refine S.val hA (R.move rfl) rfl ?_; clear hA a; intro a hA
          refine S.call hA (R.callF Tryd.func24 rfl rfl rfl) rfl (rsign30 s ((nmE s ((cNb s n p k).2.1) 999).2.1) 32 hs _) ?_; clear hA a
          rintro e w24 ⟨rfl, hb⟩
          replace hM := hM.callB hb; clear hb
          refine ⟨.int .i64 (sgE s ((nmE s ((cNb s n p k).2.1) 999).2.1) 32), rfl, fun a hA => ?_⟩
          refine S.val hA (R.assign rfl) rfl ?_; clear hA a; intro a hA
          refine S.done ?_
          replace hA : St 172 [(0, _), (2, _), (5, _), (12, _), (14, _), (15, _), (18, _)] a := hA.sub ((.cons rfl (.cons rfl (.cons rfl (.cons rfl (.cons rfl (.cons rfl (.cons rfl .nil))))))))
          refine Ends.seq (Ends.region ?_)
          refine S.val hA (R.move rfl) rfl ?_; clear hA a; intro a hA
          refine S.val hA (R.neq rfl rfl) rfl ?_; clear hA a; intro a hA
          refine S.done ?_
          refine Ends.ite hA rfl (fun hc21 => ?_) (fun hc21 => ?_)
          ·
           have hs3 : sgE s (nmE s (cNb s n p k).2.1 999).2.1 (bhd n k) ≠ 0 := by rw [hbh]; exact hc21
           have hT : (cNb s n p (k + 1)) = ([], (nmE s (cNb s n p k).2.1 999).2.1, sgE s (nmE s (cNb s n p k).2.1 999).2.1 (bhd n k)) := by rw [cNb, if_neg (not_not_intro hz), if_neg (not_not_intro hz2), if_pos hs3]
           have hTd := cNb_stuck (s := s) (n := n) (p := p) (k := k + 1) (by rw [hT]; exact hs3) (n - (k + 1))
           rw [show k + 1 + (n - (k + 1)) = n by omega, hT] at hTd
           rw [hbh] at hTd hs3
           have hT : rdC s = (crz, ((cN s).2.1 : Int), (cN s).2.2) := by unfold rdC; rw [if_neg (not_not_intro hz1), if_pos (by rw [hcN, hTd]; exact hs3)]
           rw [hcN, hTd] at hT
           refine Ends.seq (Ends.region ?_)
           refine S.val hA (R.build (cells := #[.int .i64 0, .slice none 0 0, .string (⟨#[]⟩)]) rfl (by kernel_rfl)) rfl ?_; clear hA a; intro a hA
           refine S.val hA (R.move rfl) rfl ?_; clear hA a; intro a hA
           refine S.val hA (R.move rfl) rfl ?_; clear hA a; intro a hA
           refine S.storeA (k := 2) hA hM sz24 rfl rfl rfl rfl rfl rfl ?_; clear hM
           intro w25 hM
           replace hM : Mem _ _ [pt b10 #[.int .i64 ((cH2 s).1), .slice a16 ((((cNb s n p k).1 ++ [(nmE s ((cNb s n p k).2.1) 999).1])).length) c17, .string (⟨#[]⟩)] 24, own 3 1 (.slice a16 ((((cNb s n p k).1 ++ [(nmE s ((cNb s n p k).2.1) 999).1])).length) c17) ((((cNb s n p k).1 ++ [(nmE s ((cNb s n p k).2.1) 999).1])).length) ((((cNb s n p k).1 ++ [(nmE s ((cNb s n p k).2.1) 999).1])).map (Value.int .i64)), pt b1 #[.int .i64 0, .slice none 0 0, .string (⟨#[]⟩)] 24] _ := hM
           refine S.val hA (R.assign rfl) rfl ?_; clear hA a; intro a hA
           refine S.val hA (R.assign rfl) rfl ?_; clear hA a; intro a hA
           refine S.done ?_
           replace hA : St 172 [(0, _), (2, _), (3, _), (4, _), (5, _), (12, _), (14, _), (15, _)] a := hA.sub ((.cons rfl (.cons rfl (.cons rfl (.cons rfl (.cons rfl (.cons rfl (.cons rfl (.cons rfl .nil)))))))))
           refine Ends.retC3 (k := 2) Tryd.func15 Tryd.results15 hA hM rfl rfl rfl rfl sz24 rfl ?_
           replace hM := hM.nilL.ownNil 3 1
           rw [hT]
           exact ⟨none, 0, rfl, hM⟩
          ·
           have hs3 : sgE s (nmE s (cNb s n p k).2.1 999).2.1 (bhd n k) = 0 := by rw [hbh]; exact Decidable.not_not.1 hc21
           have hT : (cNb s n p (k + 1)) = ((cNb s n p k).1 ++ [(nmE s (cNb s n p k).2.1 999).1], (nmE s (cNb s n p k).2.1 999).2.1 + 1, 0) := by rw [cNb, if_neg (not_not_intro hz), if_neg (not_not_intro hz2), if_neg (not_not_intro hs3)]
           have hq3 := sgE_lt hs3
           rw [hbh] at hs3
           refine Ends.skip (Ends.inBlock (Ends.region ?_))
           refine S.val hA (R.move rfl) rfl ?_; clear hA a; intro a hA
           refine S.val hA (R.addI rfl rfl (r := ((k : Int)) + 1) rfl (by omega)) rfl ?_; clear hA a; intro a hA
           refine S.val hA (R.assign rfl) rfl ?_; clear hA a; intro a hA
           refine S.done ?_
           replace hA : St 172 [(0, _), (2, _), (5, _), (12, _), (14, _), (15, _)] a := hA.sub ((.cons rfl (.cons rfl (.cons rfl (.cons rfl (.cons rfl (.cons rfl .nil)))))))
           replace hM := hM.front (k := 2) rfl
           replace hM := hM.front (k := 2) rfl
           replace hM := hM.front (k := 2) rfl
           replace hM := hM.firstN 3
           rw [show ((cNb s n p k).1 ++ [(nmE s ((cNb s n p k).2.1) 999).1]) = (cNb s n p (k + 1)).1 by rw [hT]] at hM
           rw [show (((nmE s ((cNb s n p k).2.1) 999).2.1 : Nat) : Int) = ((cNb s n p (k + 1)).2.1 : Int) - 1 by rw [hT]; show _ = (((nmE s (cNb s n p k).2.1 999).2.1 + 1 : Nat) : Int) - 1; omega] at hA
           replace hM : Mem _ _ [pt b10 #[.int .i64 ((cH2 s).1), .slice a16 ((cNb s n p (k + 1)).1.length) c17, .string (⟨#[]⟩)] 24, own 3 1 (.slice a16 (((cNb s n p (k + 1)).1).length) c17) (((cNb s n p (k + 1)).1).length) (((cNb s n p (k + 1)).1).map (Value.int .i64)), pt b1 #[.int .i64 0, .slice none 0 0, .string (⟨#[]⟩)] 24] _ := hM
           exact hNext1 ((k + 1, a16, c17)) _ _ ((by show n - (k + 1) < n - k; omega)) ⟨hA.sub ((.cons rfl (.cons rfl (.cons rfl (.cons rfl (.cons rfl (.cons rfl .nil))))))), hM, (by omega), (by rw [hT]), (by rw [hT]; simp only; omega)⟩
       ·
        have hke : k = n := by omega
        refine Ends.exit rfl ?_
        replace hA : St 172 [(0, _), (2, _), (5, _), (14, _)] a := hA.sub ((.cons rfl (.cons rfl (.cons rfl (.cons rfl .nil)))))
        refine Ends.seq ?_
        rw [hke] at hM hz hq hA
        obtain ⟨q, hqe⟩ : ∃ q, q = (cNb s n p n).2.1 := ⟨_, rfl⟩
        rw [← hqe] at hA hq
        have hcq : (cN s).2.1 = q := by rw [hcN, hqe]
        have hz2 : (cN s).2.2 = 0 := by rw [hcN]; exact hz
        replace hM : Mem _ _ [pt b10 #[.int .i64 ((cH2 s).1), .slice oa ((cNb s n p n).1.length) oc, .string (⟨#[]⟩)] 24, own 3 1 (.slice oa (((cNb s n p n).1).length) oc) (((cNb s n p n).1).length) (((cNb s n p n).1).map (Value.int .i64)), pt b1 #[.int .i64 0, .slice none 0 0, .string (⟨#[]⟩)] 24] _ := hM
        refine Ends.region ?_
        refine S.val hA (R.move rfl) rfl ?_; clear hA a; intro a hA
        refine S.val hA (R.addI rfl rfl (r := (q : Int)) (by omega) (by omega)) rfl ?_; clear hA a; intro a hA
        refine S.val hA (R.assign rfl) rfl ?_; clear hA a; intro a hA
        refine S.done ?_
        refine Ends.seq (Ends.region ?_)
        refine S.val hA (R.move rfl) rfl ?_; clear hA a; intro a hA
        refine S.val hA (R.to (v := .int .i64 ((q + 0 : Nat) : Int)) (R.assign rfl) (congrArg (Value.int .i64) (by omega))) rfl ?_; clear hA a; intro a hA
        refine S.done ?_
        refine Ends.seq (Ends.block ?_)
        refine Ends.loop (σ := Nat) (fun j (a : Act) (wv : World) => St 172 [(0, .string s), (2, .pointer (some ⟨b1, 0, none⟩)), (5, .int .i64 (((q + j : Nat) : Int))), (11, .int .i64 ((q : Int))), (14, .pointer (some ⟨b10, 0, none⟩))] a ∧ Mem w nof [pt b10 #[.int .i64 ((cH2 s).1), .slice oa ((cNb s n p n).1.length) oc, .string (⟨#[]⟩)] 24, own 3 1 (.slice oa (((cNb s n p n).1).length) oc) (((cNb s n p n).1).length) (((cNb s n p n).1).map (Value.int .i64)), pt b1 #[.int .i64 0, .slice none 0 0, .string (⟨#[]⟩)] 24] wv ∧ (q + j ≤ s.size) ∧ (j ≤ 1048576) ∧ (∀ i, i < j → isTb s (q + i) = true)) (fun j => s.size - (q + j)) 0 ⟨hA.sub ((.cons rfl (.cons rfl (.cons rfl (.cons rfl (.cons rfl .nil)))))), hM, (by omega), (Nat.zero_le _), (fun i hi => absurd hi (Nat.not_lt_zero i))⟩ ?_
        clear hA hM a
        rintro j a w26 ⟨hA, hM, hj, hj2, hd⟩ hNext2
        refine Ends.seq (Ends.seq ?_)
        refine Ends.cut (fun (a : Act) (wv : World) => St 172 [(0, .string s), (2, .pointer (some ⟨b1, 0, none⟩)), (5, .int .i64 (((q + j : Nat) : Int))), (11, .int .i64 ((q : Int))), (14, .pointer (some ⟨b10, 0, none⟩)), (132, .bool (decide (((((q + j : Nat) : Int)) < ((s.size : Int)) ∧ isT (byt s ((q + j)))))))] a ∧ Mem w nof [pt b10 #[.int .i64 ((cH2 s).1), .slice oa ((cNb s n p n).1.length) oc, .string (⟨#[]⟩)] 24, own 3 1 (.slice oa (((cNb s n p n).1).length) oc) (((cNb s n p n).1).length) (((cNb s n p n).1).map (Value.int .i64)), pt b1 #[.int .i64 0, .slice none 0 0, .string (⟨#[]⟩)] 24] wv) ?_ (fun k2 hJ => ?_)
        ·
         clear hA hM a; rintro a w27 ⟨hA, hM⟩
         refine Ends.ite hA rfl (fun hc22 => ?_) (fun hc22 => ?_)
         ·
          refine Ends.skip (Ends.block (Ends.seq (Ends.seq (Ends.region ?_))))
          refine S.val hA (R.move rfl) rfl ?_; clear hA a; intro a hA
          refine S.val hA (R.move rfl) rfl ?_; clear hA a; intro a hA
          refine S.val hA (R.subI rfl rfl (r := (((q + j : Nat) : Int)) - ((q : Int))) rfl (by omega)) rfl ?_; clear hA a; intro a hA
          refine S.val hA (R.eql rfl rfl) rfl ?_; clear hA a; intro a hA
          refine S.done ?_
          replace hA : St 172 [(0, _), (2, _), (5, _), (11, _), (14, _), (136, _)] a := hA.sub ((.cons rfl (.cons rfl (.cons rfl (.cons rfl (.cons rfl (.cons rfl .nil)))))))
          refine Ends.ite hA rfl (fun hc23 => ?_) (fun hc23 => ?_)
          ·
           have hy : 1048576 < cLt s q := by
            refine Classical.byContradiction fun h9 => ?_
            have h8 := (cLt_spec s q).2
            rcases Nat.lt_or_ge (cLt s q) j with h7 | h7
            · rw [hd _ h7] at h8; cases h8
            ·
             have h6 : cLt s q = j := by omega
             rw [h6] at h8; exact absurd hc22.2 (fun h5 => by have h4 : isTb s (q + j) = true := decide_eq_true ⟨by have h3 := hc22.1; omega, h5⟩; rw [h8] at h4; cases h4)
           have hT1 : cT s = (q + j, 5) := by unfold cT; rw [hcq, show q + j = q + 1048576 by omega]; exact if_pos hy
           have hT : rdC s = (crz, ((cT s).1 : Int), (cT s).2) := by unfold rdC; rw [if_neg (not_not_intro hz1), if_neg (not_not_intro hz2), if_pos (by rw [hT1]; exact fun h9 => absurd (show (5 : Int) = 0 from h9) (by decide))]
           rw [hT1] at hT
           refine Ends.seq (Ends.region ?_)
           refine S.val hA (R.build (cells := #[.int .i64 0, .slice none 0 0, .string (⟨#[]⟩)]) rfl (by kernel_rfl)) rfl ?_; clear hA a; intro a hA
           refine S.val hA (R.move rfl) rfl ?_; clear hA a; intro a hA
           refine S.storeA (k := 2) hA hM sz24 rfl rfl rfl rfl rfl rfl ?_; clear hM
           intro w28 hM
           replace hM : Mem _ _ [pt b10 #[.int .i64 ((cH2 s).1), .slice oa ((cNb s n p n).1.length) oc, .string (⟨#[]⟩)] 24, own 3 1 (.slice oa (((cNb s n p n).1).length) oc) (((cNb s n p n).1).length) (((cNb s n p n).1).map (Value.int .i64)), pt b1 #[.int .i64 0, .slice none 0 0, .string (⟨#[]⟩)] 24] _ := hM
           refine S.val hA (R.assign rfl) rfl ?_; clear hA a; intro a hA
           refine S.val hA (R.assign rfl) rfl ?_; clear hA a; intro a hA
           refine S.done ?_
           refine Ends.retC3 (k := 2) Tryd.func15 Tryd.results15 hA hM rfl rfl rfl rfl sz24 rfl ?_
           replace hM := hM.nilL.ownNil 3 1
           rw [hT]
           exact ⟨none, 0, rfl, hM⟩
          ·
           refine Ends.skip (Ends.region ?_)
           refine S.val hA (R.move rfl) rfl ?_; clear hA a; intro a hA
           refine S.val hA (R.addI rfl rfl (r := ((q + (j + 1) : Nat) : Int)) (by omega) (by omega)) rfl ?_; clear hA a; intro a hA
           refine S.val hA (R.assign rfl) rfl ?_; clear hA a; intro a hA
           refine S.done ?_
           refine Ends.inBlock ?_
           exact hNext2 ((j + 1)) _ _ ((by show s.size - (q + (j + 1)) < s.size - (q + j); omega)) ⟨hA.sub ((.cons rfl (.cons rfl (.cons rfl (.cons rfl (.cons rfl .nil)))))), hM, (by omega), (by omega), (fun i hi => by rcases Nat.lt_or_ge i j with g | g; exact hd i g; have e : i = j := (by omega); rw [e]; exact decide_eq_true ⟨by have h3 := hc22.1; omega, hc22.2⟩)⟩
         ·
          have hno9 : ¬ (q + j < s.size ∧ isT (byt s (q + j))) := fun h9 => hc22 ⟨by omega, h9.2⟩
          have hy : cLt s q = j := cLt_uniq hd (decide_eq_false hno9)
          have hy1 : ¬ 1048576 < cLt s q := by omega
          refine Ends.exit rfl ?_
          refine Ends.seq (Ends.seq (Ends.region ?_))
          refine S.val hA (R.move rfl) rfl ?_; clear hA a; intro a hA
          refine S.val hA (R.move rfl) rfl ?_; clear hA a; intro a hA
          refine S.val hA (R.lenStr Tryd.underlying9 rfl rfl) rfl ?_; clear hA a; intro a hA
          refine S.val hA (R.geq rfl rfl) rfl ?_; clear hA a; intro a hA
          refine S.done ?_
          replace hA : St 172 [(0, _), (2, _), (5, _), (11, _), (14, _), (144, _)] a := hA.sub ((.cons rfl (.cons rfl (.cons rfl (.cons rfl (.cons rfl (.cons rfl .nil)))))))
          refine Ends.ite hA rfl (fun hc24 => ?_) (fun hc24 => ?_)
          ·
           have hT1 : cT s = (q + j, 6) := by unfold cT; rw [hcq]; show cTr s q = _; unfold cTr; rw [if_neg hy1, if_neg (fun h9 => by omega), hy, sgE_out (by omega), if_pos (by decide)]
           have hT : rdC s = (crz, ((cT s).1 : Int), (cT s).2) := by unfold rdC; rw [if_neg (not_not_intro hz1), if_neg (not_not_intro hz2), if_pos (by rw [hT1]; exact fun h9 => absurd (show (6 : Int) = 0 from h9) (by decide))]
           rw [hT1] at hT
           refine Ends.seq (Ends.region ?_)
           refine S.val hA (R.build (cells := #[.int .i64 0, .slice none 0 0, .string (⟨#[]⟩)]) rfl (by kernel_rfl)) rfl ?_; clear hA a; intro a hA
           refine S.val hA (R.move rfl) rfl ?_; clear hA a; intro a hA
           refine S.storeA (k := 2) hA hM sz24 rfl rfl rfl rfl rfl rfl ?_; clear hM
           intro w29 hM
           replace hM : Mem _ _ [pt b10 #[.int .i64 ((cH2 s).1), .slice oa ((cNb s n p n).1.length) oc, .string (⟨#[]⟩)] 24, own 3 1 (.slice oa (((cNb s n p n).1).length) oc) (((cNb s n p n).1).length) (((cNb s n p n).1).map (Value.int .i64)), pt b1 #[.int .i64 0, .slice none 0 0, .string (⟨#[]⟩)] 24] _ := hM
           refine S.val hA (R.assign rfl) rfl ?_; clear hA a; intro a hA
           refine S.val hA (R.assign rfl) rfl ?_; clear hA a; intro a hA
           refine S.done ?_
           refine Ends.retC3 (k := 2) Tryd.func15 Tryd.results15 hA hM rfl rfl rfl rfl sz24 rfl ?_
           replace hM := hM.nilL.ownNil 3 1
           rw [hT]
           exact ⟨none, 0, rfl, hM⟩
          ·
           have hlt : q + j < s.size := by omega
           refine Ends.skip (Ends.seq (Ends.seq ?_))
           refine Ends.cut (fun (a : Act) (wv : World) => St 172 [(0, .string s), (2, .pointer (some ⟨b1, 0, none⟩)), (5, .int .i64 (((q + j : Nat) : Int))), (11, .int .i64 ((q : Int))), (14, .pointer (some ⟨b10, 0, none⟩)), (155, .bool (decide (((((q + j : Nat) : Int)) = ((q : Int)) ∨ (byt s ((q + j))) ≠ 10))))] a ∧ Mem w nof [pt b10 #[.int .i64 ((cH2 s).1), .slice oa ((cNb s n p n).1.length) oc, .string (⟨#[]⟩)] 24, own 3 1 (.slice oa (((cNb s n p n).1).length) oc) (((cNb s n p n).1).length) (((cNb s n p n).1).map (Value.int .i64)), pt b1 #[.int .i64 0, .slice none 0 0, .string (⟨#[]⟩)] 24] wv) ?_ (fun k2 hJ => ?_)
           ·
            clear hA hM a; rintro a w30 ⟨hA, hM⟩
            refine Ends.ite hA rfl (fun hc25 => ?_) (fun hc25 => ?_)
            ·
             have hT1 : cT s = (q + j, 2) := by
              unfold cT; rw [hcq]; show cTr s q = _; unfold cTr
              rw [if_neg hy1]
              by_cases h9 : j = 0
              · rw [if_pos ⟨by omega, by omega⟩, h9]; rfl
              · rw [if_neg (fun h8 => h9 (by omega)), hy, sgE_miss hlt (by rcases hc25 with h7 | h7; exact absurd h7 (by omega); exact h7), if_pos (by decide)]
             have hT : rdC s = (crz, ((cT s).1 : Int), (cT s).2) := by unfold rdC; rw [if_neg (not_not_intro hz1), if_neg (not_not_intro hz2), if_pos (by rw [hT1]; exact fun h9 => absurd (show (2 : Int) = 0 from h9) (by decide))]
             rw [hT1] at hT
             refine Ends.seq (Ends.region ?_)
             refine S.val hA (R.build (cells := #[.int .i64 0, .slice none 0 0, .string (⟨#[]⟩)]) rfl (by kernel_rfl)) rfl ?_; clear hA a; intro a hA
             refine S.val hA (R.move rfl) rfl ?_; clear hA a; intro a hA
             refine S.storeA (k := 2) hA hM sz24 rfl rfl rfl rfl rfl rfl ?_; clear hM
             intro w31 hM
             replace hM : Mem _ _ [pt b10 #[.int .i64 ((cH2 s).1), .slice oa ((cNb s n p n).1.length) oc, .string (⟨#[]⟩)] 24, own 3 1 (.slice oa (((cNb s n p n).1).length) oc) (((cNb s n p n).1).length) (((cNb s n p n).1).map (Value.int .i64)), pt b1 #[.int .i64 0, .slice none 0 0, .string (⟨#[]⟩)] 24] _ := hM
             refine S.val hA (R.assign rfl) rfl ?_; clear hA a; intro a hA
             refine S.val hA (R.assign rfl) rfl ?_; clear hA a; intro a hA
             refine S.done ?_
             refine Ends.retC3 (k := 2) Tryd.func15 Tryd.results15 hA hM rfl rfl rfl rfl sz24 rfl ?_
             replace hM := hM.nilL.ownNil 3 1
             rw [hT]
             exact ⟨none, 0, rfl, hM⟩
            ·
             have hj0 : j ≠ 0 := fun h9 => hc25 (.inl (by omega))
             have h10 : byt s (q + j) = 10 := Classical.byContradiction fun h9 => hc25 (.inr h9)
             have hT1 : cT s = (q + j + 1, 0) := by unfold cT; rw [hcq]; show cTr s q = _; unfold cTr; rw [if_neg hy1, if_neg (fun h9 => hj0 (by omega)), hy, sgE_ok hlt h10, if_neg (by decide)]
             have hz3 : (cT s).2 = 0 := by rw [hT1]
             refine Ends.skip (Ends.seq (Ends.region ?_))
             refine S.val hA (R.move rfl) rfl ?_; clear hA a; intro a hA
             refine S.val hA (R.move rfl) rfl ?_; clear hA a; intro a hA
             refine S.val hA (R.move rfl) rfl ?_; clear hA a; intro a hA
             refine S.val hA (R.to (v := .string ((s.extract q ((q + j))))) (R.sliceSS Tryd.underlying9 rfl rfl rfl (by omega)) (by first | rfl | (congr 2; done) | (congr 2 <;> omega))) rfl ?_; clear hA a; intro a hA
             refine S.val hA (R.fieldAddr (q := 2) fi24_2 rfl rfl rfl) rfl ?_; clear hA a; intro a hA
             refine S.store (k := 0) hA hM sz9 rfl rfl rfl rfl rfl ?_; clear hM
             intro w32 hM
             replace hM : Mem _ _ [pt b10 #[.int .i64 ((cH2 s).1), .slice oa ((cNb s n p n).1.length) oc, .string ((s.extract q ((q + j))))] 24, own 3 1 (.slice oa (((cNb s n p n).1).length) oc) (((cNb s n p n).1).length) (((cNb s n p n).1).map (Value.int .i64)), pt b1 #[.int .i64 0, .slice none 0 0, .string (⟨#[]⟩)] 24] _ := hM
             refine S.done ?_
             replace hA : St 172 [(0, _), (2, _), (5, _), (14, _)] a := hA.sub ((.cons rfl (.cons rfl (.cons rfl (.cons rfl .nil)))))
             refine Ends.seq (Ends.seq (Ends.region ?_))
             refine S.val hA (R.move rfl) rfl ?_; clear hA a; intro a hA
             refine S.val hA (R.addI rfl rfl (r := ((q + j + 1 : Nat) : Int)) (by omega) (by omega)) rfl ?_; clear hA a; intro a hA
             refine S.val hA (R.move rfl) rfl ?_; clear hA a; intro a hA
             refine S.val hA (R.lenStr Tryd.underlying9 rfl rfl) rfl ?_; clear hA a; intro a hA
             refine S.val hA (R.lss rfl rfl) rfl ?_; clear hA a; intro a hA
             refine S.done ?_
             replace hA : St 172 [(2, _), (5, _), (14, _), (167, _)] a := hA.sub ((.cons rfl (.cons rfl (.cons rfl (.cons rfl .nil)))))
             refine Ends.ite hA rfl (fun hc26 => ?_) (fun hc26 => ?_)
             ·
              have hT : rdC s = (crz, ((cT s).1 : Int), 7) := by unfold rdC; rw [if_neg (not_not_intro hz1), if_neg (not_not_intro hz2), if_neg (not_not_intro hz3), if_pos (by rw [hT1]; show q + j + 1 < s.size; omega)]
              rw [hT1] at hT
              refine Ends.seq (Ends.region ?_)
              refine S.val hA (R.build (cells := #[.int .i64 0, .slice none 0 0, .string (⟨#[]⟩)]) rfl (by kernel_rfl)) rfl ?_; clear hA a; intro a hA
              refine S.val hA (R.move rfl) rfl ?_; clear hA a; intro a hA
              refine S.val hA (R.addI rfl rfl (r := ((q + j + 1 : Nat) : Int)) (by omega) (by omega)) rfl ?_; clear hA a; intro a hA
              refine S.storeA (k := 2) hA hM sz24 rfl rfl rfl rfl rfl rfl ?_; clear hM
              intro w33 hM
              replace hM : Mem _ _ [pt b10 #[.int .i64 ((cH2 s).1), .slice oa ((cNb s n p n).1.length) oc, .string ((s.extract q ((q + j))))] 24, own 3 1 (.slice oa (((cNb s n p n).1).length) oc) (((cNb s n p n).1).length) (((cNb s n p n).1).map (Value.int .i64)), pt b1 #[.int .i64 0, .slice none 0 0, .string (⟨#[]⟩)] 24] _ := hM
              refine S.val hA (R.assign rfl) rfl ?_; clear hA a; intro a hA
              refine S.val hA (R.assign rfl) rfl ?_; clear hA a; intro a hA
              refine S.done ?_
              replace hA : St 172 [(2, _), (3, _), (4, _), (14, _)] a := hA.sub ((.cons rfl (.cons rfl (.cons rfl (.cons rfl .nil)))))
              refine Ends.retC3 (k := 2) Tryd.func15 Tryd.results15 hA hM rfl rfl rfl rfl sz24 rfl ?_
              replace hM := hM.nilL.ownNil 3 1
              rw [hT]
              exact ⟨none, 0, rfl, hM⟩
             ·
              have hT : rdC s = (⟨(cH2 s).1, (cN s).1, s.extract (cN s).2.1 ((cN s).2.1 + cLt s (cN s).2.1)⟩, 0, 0) := by unfold rdC; rw [if_neg (not_not_intro hz1), if_neg (not_not_intro hz2), if_neg (not_not_intro hz3), if_neg (by rw [hT1]; show ¬ q + j + 1 < s.size; omega)]
              rw [hcq, hy] at hT
              refine Ends.skip (Ends.seq (Ends.region ?_))
              refine S.val hA (R.loadA sz24 rfl (hM.range (k := 0) rfl) rfl) rfl ?_; clear hA a; intro a hA
              refine S.storeA (k := 2) hA hM sz24 rfl rfl rfl rfl rfl rfl ?_; clear hM
              intro w34 hM
              replace hM : Mem _ _ [pt b10 #[.int .i64 ((cH2 s).1), .slice oa ((cNb s n p n).1.length) oc, .string ((s.extract q ((q + j))))] 24, own 3 1 (.slice oa (((cNb s n p n).1).length) oc) (((cNb s n p n).1).length) (((cNb s n p n).1).map (Value.int .i64)), pt b1 #[.int .i64 ((cH2 s).1), .slice oa ((cNb s n p n).1.length) oc, .string ((s.extract q ((q + j))))] 24] _ := hM
              refine S.val hA (R.assign rfl) rfl ?_; clear hA a; intro a hA
              refine S.val hA (R.assign rfl) rfl ?_; clear hA a; intro a hA
              refine S.done ?_
              replace hA : St 172 [(2, _), (3, _), (4, _)] a := hA.sub ((.cons rfl (.cons rfl (.cons rfl .nil))))
              refine Ends.retC3 (k := 2) Tryd.func15 Tryd.results15 hA hM rfl rfl rfl rfl sz24 rfl ?_
              replace hM := hM.front (k := 1) rfl
              replace hM := hM.firstN 1
              rw [← hcN] at hM ⊢
              rw [hT]
              exact ⟨_, _, rfl, hM⟩
           ·
            refine Ends.region ?_
            refine S.val hA (R.move rfl) rfl ?_; clear hA a; intro a hA
            refine S.val hA (R.move rfl) rfl ?_; clear hA a; intro a hA
            refine S.val hA (R.eql rfl rfl) rfl ?_; clear hA a; intro a hA
            refine S.val hA (R.move rfl) rfl ?_; clear hA a; intro a hA
            refine hA.split (d := 150) rfl ?_ ?_
            ·
             clear hA; intro hg27 hA
             refine S.no (dj := 150) hA (by kernel_rfl) rfl rfl rfl ?_; clear hA a; intro a hA
             refine S.no (dj := 150) hA (by kernel_rfl) rfl rfl rfl ?_; clear hA a; intro a hA
             refine S.no (dj := 150) hA (by kernel_rfl) rfl rfl rfl ?_; clear hA a; intro a hA
             refine S.no (dj := 150) hA (by kernel_rfl) rfl rfl rfl ?_; clear hA a; intro a hA
             refine S.val hA (R.pickT rfl rfl) rfl ?_; clear hA a; intro a hA
             refine S.done ?_
             replace hA : St 172 [(0, _), (2, _), (5, _), (11, _), (14, _), (155, _)] a := hA.sub ((.cons rfl (.cons rfl (.cons rfl (.cons rfl (.cons rfl (.cons rfl .nil)))))))
             exact hJ _ _ ⟨hA.sub (.cons rfl (.cons rfl (.cons rfl (.cons rfl (.cons rfl (.cons (by first | rfl | exact congrArg (fun b => some (Value.bool b)) (by first | exact decide_eq_decide.2 (by omega) | exact or_bool (by omega) | exact and_bool (by omega) | (simp; done) | (simp [hg27]; done) | (have h80 := hg27; (try simp at h80); simp [h80]; done) | exact (decide_eq_false (fun h9 => hg27 h9.1)).symm)) .nil)))))), hM⟩
            ·
             clear hA; intro hg27 hA
             refine S.valg (dj := 150) hA (by kernel_rfl) rfl (R.move rfl) rfl ?_; clear hA a; intro a hA
             refine S.valg (dj := 150) hA (by kernel_rfl) rfl (R.move rfl) rfl ?_; clear hA a; intro a hA
             refine S.valg (dj := 150) hA (by kernel_rfl) rfl (R.to (v := .int .u8 (byt s ((q + j)))) (R.idxS Tryd.underlying9 rfl rfl (by omega)) (by first | rfl | (congr 2; done) | (congr 2; omega))) rfl ?_; clear hA a; intro a hA
             refine S.valg (dj := 150) hA (by kernel_rfl) rfl (R.neq rfl rfl) rfl ?_; clear hA a; intro a hA
             refine S.val hA (R.pickF rfl rfl) rfl ?_; clear hA a; intro a hA
             refine S.done ?_
             replace hA : St 172 [(0, _), (2, _), (5, _), (11, _), (14, _), (155, _)] a := hA.sub ((.cons rfl (.cons rfl (.cons rfl (.cons rfl (.cons rfl (.cons rfl .nil)))))))
             exact hJ _ _ ⟨hA.sub (.cons rfl (.cons rfl (.cons rfl (.cons rfl (.cons rfl (.cons (by first | rfl | exact congrArg (fun b => some (Value.bool b)) (by first | exact decide_eq_decide.2 (by omega) | exact or_bool (by omega) | exact and_bool (by omega) | (simp; done) | (simp [hg27]; done) | (have h80 := hg27; (try simp at h80); simp [h80]; done) | exact (decide_eq_false (fun h9 => hg27 h9.1)).symm)) .nil)))))), hM⟩
        ·
         refine Ends.region ?_
         refine S.val hA (R.move rfl) rfl ?_; clear hA a; intro a hA
         refine S.val hA (R.move rfl) rfl ?_; clear hA a; intro a hA
         refine S.val hA (R.lenStr Tryd.underlying9 rfl rfl) rfl ?_; clear hA a; intro a hA
         refine S.val hA (R.lss rfl rfl) rfl ?_; clear hA a; intro a hA
         refine S.val hA (R.move rfl) rfl ?_; clear hA a; intro a hA
         refine hA.split (d := 127) rfl ?_ ?_
         ·
          clear hA; intro hg28 hA
          refine S.valg (dj := 127) hA (by kernel_rfl) rfl (R.move rfl) rfl ?_; clear hA a; intro a hA
          refine S.valg (dj := 127) hA (by kernel_rfl) rfl (R.move rfl) rfl ?_; clear hA a; intro a hA
          refine S.valg (dj := 127) hA (by kernel_rfl) rfl (R.to (v := .int .u8 (byt s ((q + j)))) (R.idxS Tryd.underlying9 rfl rfl (by omega)) (by first | rfl | (congr 2; done) | (congr 2; omega))) rfl ?_; clear hA a; intro a hA
          refine S.callg (dj := 127) hA (by kernel_rfl) rfl (R.callF Tryd.func20 rfl rfl rfl) rfl (rletter30 (byt s ((q + j))) _) ?_; clear hA a
          rintro e w35 ⟨rfl, hb⟩
          replace hM := hM.callB hb; clear hb
          refine ⟨.bool (decide (isT (byt s ((q + j))))), rfl, fun a hA => ?_⟩
          refine S.val hA (R.pickT rfl rfl) rfl ?_; clear hA a; intro a hA
          refine S.done ?_
          replace hA : St 172 [(0, _), (2, _), (5, _), (11, _), (14, _), (132, _)] a := hA.sub ((.cons rfl (.cons rfl (.cons rfl (.cons rfl (.cons rfl (.cons rfl .nil)))))))
          exact hJ _ _ ⟨hA.sub (.cons rfl (.cons rfl (.cons rfl (.cons rfl (.cons rfl (.cons (by first | rfl | exact congrArg (fun b => some (Value.bool b)) (by first | exact decide_eq_decide.2 (by omega) | exact or_bool (by omega) | exact and_bool (by omega) | (simp; done) | (simp [hg28]; done) | (have h80 := hg28; (try simp at h80); simp [h80]; done) | exact (decide_eq_false (fun h9 => hg28 h9.1)).symm)) .nil)))))), hM⟩
         ·
          clear hA; intro hg28 hA
          refine S.no (dj := 127) hA (by kernel_rfl) rfl rfl rfl ?_; clear hA a; intro a hA
          refine S.no (dj := 127) hA (by kernel_rfl) rfl rfl rfl ?_; clear hA a; intro a hA
          refine S.no (dj := 127) hA (by kernel_rfl) rfl rfl rfl ?_; clear hA a; intro a hA
          refine S.no (dj := 127) hA (by kernel_rfl) rfl rfl rfl ?_; clear hA a; intro a hA
          refine S.val hA (R.pickF rfl rfl) rfl ?_; clear hA a; intro a hA
          refine S.done ?_
          replace hA : St 172 [(0, _), (2, _), (5, _), (11, _), (14, _), (132, _)] a := hA.sub ((.cons rfl (.cons rfl (.cons rfl (.cons rfl (.cons rfl (.cons rfl .nil)))))))
          exact hJ _ _ ⟨hA.sub (.cons rfl (.cons rfl (.cons rfl (.cons rfl (.cons rfl (.cons (by first | rfl | exact congrArg (fun b => some (Value.bool b)) (by first | exact decide_eq_decide.2 (by omega) | exact or_bool (by omega) | exact and_bool (by omega) | (simp; done) | (simp [hg28]; done) | (have h80 := hg28; (try simp at h80); simp [h80]; done) | exact (decide_eq_false (fun h9 => hg28 h9.1)).symm)) .nil)))))), hM⟩
end Go.Proofs.YtnhnjjlfoajbgaaDoor
