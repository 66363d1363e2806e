/-
  CertLong, part 2 of 2: what the code computes, and plain laws; no condition beside those that each theorem tells.
-/
import Derived.Test.YtnhnjjlfoajbgaaDoorCertLongA
namespace Go.Proofs.YtnhnjjlfoajbgaaDoor
open Go.RowKit
theorem dec_let {s : ByteArray} {p : Nat} (h : p < s.size) : (isT ((Utf8.decode s p).1 : Int) ↔ isT (byt s p)) ∧ (isT (byt s p) → (Utf8.decode s p).2 = 1) := by
  have hb := byt_at h
  by_cases ha : (s[p]'h).toNat < 128
  · rw [decode_ascii s p h ha]
    exact ⟨by rw [hb], fun _ => rfl⟩
  · have h2 := (decode_high s p h (by omega)).1
    have hn : ¬ isT (byt s p) := fun hd => by unfold isT at hd; rw [← hb] at hd; omega
    exact ⟨⟨fun hk => by unfold isT at hk; exfalso; omega, fun hd => absurd hd hn⟩, fun hd => absurd hd hn⟩
theorem sgE_in {s : ByteArray} {p : Nat} {c : Int} (h : p < s.size) : sgE s p c = if byt s p ≠ c then 2 else 0 := if_neg (by omega)
theorem sgE_out {s : ByteArray} {p : Nat} {c : Int} (h : s.size ≤ p) : sgE s p c = 6 := if_pos h
theorem sgE_miss {s : ByteArray} {p : Nat} {c : Int} (h : p < s.size) (g : byt s p ≠ c) : sgE s p c = 2 := by rw [sgE_in h, if_pos g]
theorem sgE_ok {s : ByteArray} {p : Nat} {c : Int} (h : p < s.size) (g : byt s p = c) : sgE s p c = 0 := by rw [sgE_in h, if_neg (not_not_intro g)]
theorem sgE_lt {s : ByteArray} {p : Nat} {c : Int} (h : sgE s p c = 0) : p < s.size := by
  rcases Nat.lt_or_ge p s.size with g | g
  · exact g
  · rw [sgE_out g] at h; cases h
theorem nm_le {s : ByteArray} {p : Nat} {most : Int} (hp : p ≤ s.size) : p ≤ (nmE s p most).2.1 ∧ (nmE s p most).2.1 ≤ s.size ∧ (p < (nmE s p most).2.1 ∨ (nmE s p most).2.2 ≠ 0) := by
  unfold nmE
  split
  · exact ⟨Nat.le_refl _, hp, .inr (fun h9 => absurd (show (6 : Int) = 0 from h9) (by decide))⟩
  · split
    · rename_i e; exact ⟨Nat.le_refl _, hp, .inr e⟩
    · rename_i e
      split
      · exact ⟨Nat.le_refl _, hp, .inr (fun h9 => absurd (show (5 : Int) = 0 from h9) (by decide))⟩
      · refine ⟨by simp only; omega, by simp only; exact dgs_le s hp, .inl ?_⟩
        simp only
        have : dgs s p ≠ 0 := fun h0 => e (Classical.byContradiction fun h9 => by
          have h8 : (readI s p).2.2 = 0 := Decidable.not_not.1 e
          unfold readI at h8
          rw [if_neg (by omega), Int.toNat_natCast, if_pos (.inl h0)] at h8
          exact absurd h8 (by decide))
        omega
theorem nm_ok {s : ByteArray} {p : Nat} {most : Int} (hp : p < s.size) (e : (readI s p).2.2 = 0) (h : ¬ most < (readI s p).1) : nmE s p most = ((readI s p).1, p + dgs s p, 0) ∧ (readI s p).2.1 = ((p + dgs s p : Nat) : Int) := by
  constructor
  · unfold nmE; rw [if_neg (by omega), if_neg (not_not_intro e), if_neg h]
  · unfold readI at e ⊢
    rw [if_neg (by omega), Int.toNat_natCast] at e ⊢
    split
    · rename_i g; rw [if_pos g] at e; exact absurd e (by decide)
    · rename_i g
      rw [if_neg g] at e
      split
      · rename_i g2; rw [if_pos g2] at e; exact absurd e (by decide)
      · simp only; omega
theorem nm_val {s : ByteArray} {p : Nat} {most : Int} (hm : 0 ≤ most) : 0 ≤ (nmE s p most).1 ∧ (nmE s p most).1 ≤ most := by
  unfold nmE
  split
  · exact ⟨Int.le_refl _, hm⟩
  · split
    · exact ⟨Int.le_refl _, hm⟩
    · rename_i e
      have e := Decidable.not_not.1 e
      split
      · exact ⟨Int.le_refl _, hm⟩
      · rename_i h
        refine ⟨?_, by simp only; omega⟩
        simp only
        unfold readI at e ⊢
        split
        · exact Int.le_refl _
        · rename_i g1
          rw [if_neg g1] at e
          split
          · exact Int.le_refl _
          · rename_i g2
            rw [if_neg g2] at e
            split
            · exact Int.le_refl _
            · exact (numv_bd (fun j hj => (dgs_spec s _).1 j hj)).1
set_option maxRecDepth 100000 in
set_option maxHeartbeats 400000 in
theorem letter30 (r : Int) (w : World) :
  Calls Tryd.prog 27 #[.int .i32 r] w fun e w' => e = .returned (.bool (decide (isT r))) ∧ Below w.heap.size w w' := by
 have hbs := Below.refl (B := w.heap.size) w
 have hM := Mem.start w
 refine Calls.of_ends (vs := [.int .i32 r]) Tryd.func27 rfl Tryd.ntmps27 rfl ?_
 intro a hA
 replace hA : St 13 [(0, _)] a := hA
 refine Ends.seq (Ends.region ?_)
 refine S.val hA (R.assign rfl) rfl ?_; clear hA a; intro a hA
 refine S.done ?_
 refine Ends.seq ?_
 refine Ends.cut (fun (a : Act) (wv : World) => St 13 [(2, .bool (decide (((r = 112 ∨ r = 98) ∨ r = 108))))] a ∧ Mem w nof [] wv) ?_ (fun k2 hJ => ?_)
 ·
  clear hA hM a; rintro a w1 ⟨hA, hM⟩
  refine Ends.ret1 Tryd.func27 Tryd.results27 hA rfl ?_
  exact ⟨congrArg (fun b => Ending.returned (.bool b)) (decide_eq_decide.2 (by (try unfold isT); omega)), Mem.trans0 hbs hM.nilL⟩
 ·
  refine Ends.region ?_
  refine S.val hA (R.move rfl) rfl ?_; clear hA a; intro a hA
  refine S.val hA (R.eql rfl rfl) rfl ?_; clear hA a; intro a hA
  refine S.val hA (R.move rfl) rfl ?_; clear hA a; intro a hA
  refine hA.split (d := 5) rfl ?_ ?_
  ·
   clear hA; intro hg1 hA
   refine S.no (dj := 5) hA (by kernel_rfl) rfl rfl rfl ?_; clear hA a; intro a hA
   refine S.no (dj := 5) hA (by kernel_rfl) rfl rfl rfl ?_; clear hA a; intro a hA
   refine S.val hA (R.pickT rfl rfl) rfl ?_; clear hA a; intro a hA
   refine S.val hA (R.move rfl) rfl ?_; clear hA a; intro a hA
   refine S.no (dj := 9) hA (by kernel_rfl) rfl rfl rfl ?_; clear hA a; intro a hA
   refine S.no (dj := 9) hA (by kernel_rfl) rfl rfl rfl ?_; clear hA a; intro a hA
   refine S.val hA (R.pickT rfl rfl) rfl ?_; clear hA a; intro a hA
   refine S.val hA (R.assign rfl) rfl ?_; clear hA a; intro a hA
   refine S.done ?_
   replace hA : St 13 [(2, _)] a := hA.sub ((.cons rfl .nil))
   exact hJ _ _ ⟨hA.sub (.cons (by first | rfl | exact congrArg (fun b => some (Value.bool b)) (by first | exact decide_eq_decide.2 (by omega) | exact or_bool (by omega) | exact and_bool (by omega) | (simp; done) | (simp [hg1]; done) | (have h80 := hg1; (try simp at h80); simp [h80]; done) | exact (decide_eq_false (fun h9 => hg1 h9.1)).symm)) .nil), hM⟩
  ·
   clear hA; intro hg1 hA
   refine S.valg (dj := 5) hA (by kernel_rfl) rfl (R.move rfl) rfl ?_; clear hA a; intro a hA
   refine S.valg (dj := 5) hA (by kernel_rfl) rfl (R.eql rfl rfl) rfl ?_; clear hA a; intro a hA
   refine S.val hA (R.pickF rfl rfl) rfl ?_; clear hA a; intro a hA
   refine S.val hA (R.move rfl) rfl ?_; clear hA a; intro a hA
   refine hA.split (d := 9) rfl ?_ ?_
   ·
    clear hA; intro hg2 hA
    refine S.no (dj := 9) hA (by kernel_rfl) rfl rfl rfl ?_; clear hA a; intro a hA
    refine S.no (dj := 9) hA (by kernel_rfl) rfl rfl rfl ?_; clear hA a; intro a hA
    refine S.val hA (R.pickT rfl rfl) rfl ?_; clear hA a; intro a hA
    refine S.val hA (R.assign rfl) rfl ?_; clear hA a; intro a hA
    refine S.done ?_
    replace hA : St 13 [(2, _)] a := hA.sub ((.cons rfl .nil))
    exact hJ _ _ ⟨hA.sub (.cons (by first | rfl | exact congrArg (fun b => some (Value.bool b)) (by first | exact decide_eq_decide.2 (by omega) | exact or_bool (by omega) | exact and_bool (by omega) | (simp; done) | (simp [hg1, hg2]; done) | (have h80 := hg1; (try simp at h80); have h81 := hg2; (try simp at h81); simp [h80, h81]; done) | exact (decide_eq_false (fun h9 => hg1 h9.1)).symm | exact (decide_eq_false (fun h9 => hg2 h9.1)).symm)) .nil), hM⟩
   ·
    clear hA; intro hg2 hA
    refine S.valg (dj := 9) hA (by kernel_rfl) rfl (R.move rfl) rfl ?_; clear hA a; intro a hA
    refine S.valg (dj := 9) hA (by kernel_rfl) rfl (R.eql rfl rfl) rfl ?_; clear hA a; intro a hA
    refine S.val hA (R.pickF rfl rfl) rfl ?_; clear hA a; intro a hA
    refine S.val hA (R.assign rfl) rfl ?_; clear hA a; intro a hA
    refine S.done ?_
    replace hA : St 13 [(2, _)] a := hA.sub ((.cons rfl .nil))
    exact hJ _ _ ⟨hA.sub (.cons (by first | rfl | exact congrArg (fun b => some (Value.bool b)) (by first | exact decide_eq_decide.2 (by omega) | exact or_bool (by omega) | exact and_bool (by omega) | (simp; done) | (simp [hg1, hg2]; done) | (have h80 := hg1; (try simp at h80); have h81 := hg2; (try simp at h81); simp [h80, h81]; done) | exact (decide_eq_false (fun h9 => hg1 h9.1)).symm | exact (decide_eq_false (fun h9 => hg2 h9.1)).symm)) .nil), hM⟩
set_option maxRecDepth 100000 in
set_option maxHeartbeats 400000 in
theorem within30 (n low high : Int) (w : World) :
  Calls Tryd.prog 26 #[.int .i64 n, .int .i64 low, .int .i64 high] w fun e w' => e = .returned (.bool (decide (low ≤ n ∧ n ≤ high))) ∧ Below w.heap.size w w' := by
 have hbs := Below.refl (B := w.heap.size) w
 have hM := Mem.start w
 refine Calls.of_ends (vs := [.int .i64 n, .int .i64 low, .int .i64 high]) Tryd.func26 rfl Tryd.ntmps26 rfl ?_
 intro a hA
 replace hA : St 15 [(0, _), (1, _), (2, _)] a := hA
 refine Ends.seq (Ends.region ?_)
 refine S.val hA (R.assign rfl) rfl ?_; clear hA a; intro a hA
 refine S.done ?_
 refine Ends.seq ?_
 refine Ends.cut (fun (a : Act) (wv : World) => St 15 [(6, .bool (decide ((low ≤ n ∧ n ≤ high))))] a ∧ Mem w nof [] wv) ?_ (fun k2 hJ => ?_)
 ·
  clear hA hM a; rintro a w1 ⟨hA, hM⟩
  refine Ends.ret1 Tryd.func26 Tryd.results26 hA rfl ?_
  exact ⟨congrArg (fun b => Ending.returned (.bool b)) (decide_eq_decide.2 (by (try unfold isT); omega)), Mem.trans0 hbs hM.nilL⟩
 ·
  refine Ends.region ?_
  refine S.val hA (R.move rfl) rfl ?_; clear hA a; intro a hA
  refine S.val hA (R.move rfl) rfl ?_; clear hA a; intro a hA
  refine S.val hA (R.geq rfl rfl) rfl ?_; clear hA a; intro a hA
  refine S.val hA (R.move rfl) rfl ?_; clear hA a; intro a hA
  refine hA.split (d := 10) rfl ?_ ?_
  ·
   clear hA; intro hg1 hA
   refine S.valg (dj := 10) hA (by kernel_rfl) rfl (R.move rfl) rfl ?_; clear hA a; intro a hA
   refine S.valg (dj := 10) hA (by kernel_rfl) rfl (R.move rfl) rfl ?_; clear hA a; intro a hA
   refine S.valg (dj := 10) hA (by kernel_rfl) rfl (R.leq rfl rfl) rfl ?_; clear hA a; intro a hA
   refine S.val hA (R.pickT rfl rfl) rfl ?_; clear hA a; intro a hA
   refine S.val hA (R.assign rfl) rfl ?_; clear hA a; intro a hA
   refine S.done ?_
   replace hA : St 15 [(6, _)] a := hA.sub ((.cons rfl .nil))
   exact hJ _ _ ⟨hA.sub (.cons (by first | rfl | exact congrArg (fun b => some (Value.bool b)) (by first | exact decide_eq_decide.2 (by omega) | exact or_bool (by omega) | exact and_bool (by omega) | (simp; done) | (simp [hg1]; done) | (have h80 := hg1; (try simp at h80); simp [h80]; done) | exact (decide_eq_false (fun h9 => hg1 h9.1)).symm)) .nil), hM⟩
  ·
   clear hA; intro hg1 hA
   refine S.no (dj := 10) hA (by kernel_rfl) rfl rfl rfl ?_; clear hA a; intro a hA
   refine S.no (dj := 10) hA (by kernel_rfl) rfl rfl rfl ?_; clear hA a; intro a hA
   refine S.no (dj := 10) hA (by kernel_rfl) rfl rfl rfl ?_; clear hA a; intro a hA
   refine S.val hA (R.pickF rfl rfl) rfl ?_; clear hA a; intro a hA
   refine S.val hA (R.assign rfl) rfl ?_; clear hA a; intro a hA
   refine S.done ?_
   replace hA : St 15 [(6, _)] a := hA.sub ((.cons rfl .nil))
   exact hJ _ _ ⟨hA.sub (.cons (by first | rfl | exact congrArg (fun b => some (Value.bool b)) (by first | exact decide_eq_decide.2 (by omega) | exact or_bool (by omega) | exact and_bool (by omega) | (simp; done) | (simp [hg1]; done) | (have h80 := hg1; (try simp at h80); simp [h80]; done) | exact (decide_eq_false (fun h9 => hg1 h9.1)).symm)) .nil), hM⟩
set_option maxRecDepth 100000 in
set_option maxHeartbeats 400000 in
theorem signs30 (s : ByteArray) (rb p : Nat) (hp : p ≤ s.size) (hs : s.size ≤ 4611686018427387904) (want : ByteArray) (W : List Int) (hWl : want.size = W.length) (hWs : W.length ≤ 100) (hWb : ∀ k, k < W.length → byt want k = W.getD k 0) (w : World) (hM : Mem w (feet [pt rb #[.string s, .int .i64 ((p : Int))] 51]) [pt rb #[.string s, .int .i64 ((p : Int))] 51] w) :
  Calls Tryd.prog 32 #[.pointer (some ⟨rb, 0, none⟩), .string want] w fun e w' => e = .returned (.int .i64 (sgW s W p).2) ∧ Mem w (feet [pt rb #[.string s, .int .i64 ((p : Int))] 51]) [pt rb #[.string s, .int .i64 ((((sgW s W p).1 : Nat) : Int))] 51] w' := by
 have hbs := Below.refl (B := w.heap.size) w
 refine Calls.of_ends (vs := [.pointer (some ⟨rb, 0, none⟩), .string want]) Tryd.func32 rfl Tryd.ntmps32 rfl ?_
 intro a hA
 replace hA : St 44 [(0, _), (1, _)] a := hA
 refine Ends.seq (Ends.region ?_)
 refine S.val hA (R.assign rfl) rfl ?_; clear hA a; intro a hA
 refine S.done ?_
 refine Ends.seq (Ends.seq (Ends.region ?_))
 refine S.val hA (R.move rfl) rfl ?_; clear hA a; intro a hA
 refine S.val hA (R.lenStr Tryd.underlying9 rfl rfl) rfl ?_; clear hA a; intro a hA
 refine S.val hA (R.move rfl) rfl ?_; clear hA a; intro a hA
 refine S.done ?_
 refine Ends.block ?_
 rw [show (p : Int) = ((p + 0 : Nat) : Int) by omega] at hM
 replace hM : Mem _ _ [pt rb #[.string s, .int .i64 (((p + 0 : Nat) : Int))] 51] _ := hM
 refine Ends.loop (σ := Nat) (fun k (a : Act) (wv : World) => St 44 [(0, .pointer (some ⟨rb, 0, none⟩)), (1, .string want), (7, .int .i64 ((want.size : Int))), (8, .int .i64 ((k : Int)))] a ∧ Mem w (feet [pt rb #[.string s, .int .i64 ((p : Int))] 51]) [pt rb #[.string s, .int .i64 (((p + k : Nat) : Int))] 51] wv ∧ (k ≤ W.length) ∧ (p + k ≤ s.size) ∧ (sgW s W p = sgW s (W.drop k) (p + k))) (fun k => W.length - k) 0 ⟨hA.sub ((.cons rfl (.cons rfl (.cons rfl (.cons rfl .nil))))), hM, (Nat.zero_le _), (by omega), rfl⟩ ?_
 clear hA hM a
 rintro k a w1 ⟨hA, hM, hk, hpk, hinv⟩ hNext
 refine Ends.seq (Ends.region ?_)
 refine S.val hA (R.lss rfl rfl) rfl ?_; clear hA a; intro a hA
 refine S.done ?_
 refine Ends.seq ?_
 refine Ends.ite hA rfl (fun hc1 => ?_) (fun hc1 => ?_)
 ·
  have hdr : W.drop k = W.getD k 0 :: W.drop (k + 1) := by rw [List.drop_eq_getElem_cons (by omega)]; congr 1; simp [List.getD, show k < W.length by omega]
  have hbk := hWb k (by omega)
  refine Ends.skip (Ends.seq (Ends.block (Ends.seq (Ends.region ?_))))
  refine S.val hA (R.move rfl) rfl ?_; clear hA a; intro a hA
  refine S.val hA (R.assign rfl) rfl ?_; clear hA a; intro a hA
  refine S.done ?_
  refine Ends.seq (Ends.block (Ends.seq ?_))
  refine Ends.drawn (Mem w (feet [pt rb #[.string s, .int .i64 ((p : Int))] 51]) [pt rb #[.string s, .int .i64 (((p + k : Nat) : Int))] 51]) (.cons (0, true) (.cons (1, true) (.cons (2, true) (.cons (3, true) (.cons (4, true) (.cons (5, true) (.cons (6, true) (.cons (7, true) (.cons (8, true) (.cons (9, true) (.cons (10, true) .nil))))))))))) 11 mixed (by kernel_rfl) (by kernel_rfl) (by kernel_rfl) hM.drew ?_
  replace hM := hM.drew
  refine D.valF hA rfl (fun _ => R.move rfl) rfl ?_; clear hA a; intro a hA
  refine D.valF hA rfl (fun _ => R.nilCheck rfl) rfl ?_; clear hA a; intro a hA
  refine D.valF hA rfl (fun _ => R.fieldAddr (q := 1) fi51_1 rfl rfl rfl) rfl ?_; clear hA a; intro a hA
  refine D.val hA rfl (by kernel_rfl) (fun _ hM => R.load sz3 rfl (hM.cell (k := 0) rfl rfl)) rfl ?_; clear hA a; intro a hA
  refine D.valF hA rfl (fun _ => R.move rfl) rfl ?_; clear hA a; intro a hA
  refine D.valF hA rfl (fun _ => R.nilCheck rfl) rfl ?_; clear hA a; intro a hA
  refine D.valF hA rfl (fun _ => R.fieldAddr (q := 0) fi51_0 rfl rfl rfl) rfl ?_; clear hA a; intro a hA
  refine D.val hA rfl (by kernel_rfl) (fun _ hM => R.load sz9 rfl (hM.cell (k := 0) rfl rfl)) rfl ?_; clear hA a; intro a hA
  refine D.valF hA rfl (fun _ => R.lenStr Tryd.underlying9 rfl rfl) rfl ?_; clear hA a; intro a hA
  refine D.valF hA rfl (fun _ => R.eql rfl rfl) rfl ?_; clear hA a; intro a hA
  refine D.valF hA rfl (fun _ => R.assign rfl) rfl ?_; clear hA a; intro a hA
  refine D.done ?_
  replace hA : St 44 [(0, _), (1, _), (5, _), (7, _), (8, _), (11, _)] a := hA.sub ((.cons rfl (.cons rfl (.cons rfl (.cons rfl (.cons rfl (.cons rfl .nil)))))))
  refine Ends.ite hA rfl (fun hc2 => ?_) (fun hc2 => ?_)
  ·
   have hT : sgW s W p = (p + k, 6) := by rw [hinv, hdr, sgW, sgE_out (by omega), if_pos (by decide)]
   refine Ends.seq (Ends.region ?_)
   refine S.val hA (R.assign rfl) rfl ?_; clear hA a; intro a hA
   refine S.done ?_
   refine Ends.ret1 Tryd.func32 Tryd.results32 hA rfl ?_
   replace hM := hM.firstN 1
   replace hM : Mem _ _ [pt rb #[.string s, .int .i64 (((p + k : Nat) : Int))] 51] _ := hM
   rw [hT]
   exact ⟨rfl, hM⟩
  ·
   have hlt : p + k < s.size := by omega
   refine Ends.seq ?_
   refine Ends.drawn (Mem w (feet [pt rb #[.string s, .int .i64 ((p : Int))] 51]) [pt rb #[.string s, .int .i64 (((p + k : Nat) : Int))] 51]) (.cons (0, true) (.cons (1, true) (.cons (2, true) (.cons (3, true) (.cons (4, true) (.cons (5, true) (.cons (6, true) (.cons (7, true) (.cons (8, true) (.cons (9, true) (.cons (10, true) (.cons (11, true) (.cons (12, true) (.cons (13, true) .nil)))))))))))))) 14 mixed (by kernel_rfl) (by kernel_rfl) (by kernel_rfl) hM.drew ?_
   replace hM := hM.drew
   refine D.valF hA rfl (fun _ => R.move rfl) rfl ?_; clear hA a; intro a hA
   refine D.valF hA rfl (fun _ => R.nilCheck rfl) rfl ?_; clear hA a; intro a hA
   refine D.valF hA rfl (fun _ => R.fieldAddr (q := 0) fi51_0 rfl rfl rfl) rfl ?_; clear hA a; intro a hA
   refine D.val hA rfl (by kernel_rfl) (fun _ hM => R.load sz9 rfl (hM.cell (k := 0) rfl rfl)) rfl ?_; clear hA a; intro a hA
   refine D.valF hA rfl (fun _ => R.move rfl) rfl ?_; clear hA a; intro a hA
   refine D.valF hA rfl (fun _ => R.nilCheck rfl) rfl ?_; clear hA a; intro a hA
   refine D.valF hA rfl (fun _ => R.fieldAddr (q := 1) fi51_1 rfl rfl rfl) rfl ?_; clear hA a; intro a hA
   refine D.val hA rfl (by kernel_rfl) (fun _ hM => R.load sz3 rfl (hM.cell (k := 0) rfl rfl)) rfl ?_; clear hA a; intro a hA
   refine D.valF hA rfl (fun _ => R.to (v := .int .u8 (byt s ((p + k)))) (R.idxS Tryd.underlying9 rfl rfl (by omega)) (by first | rfl | (congr 2; done) | (congr 2; omega))) rfl ?_; clear hA a; intro a hA
   refine D.valF hA rfl (fun _ => R.move rfl) rfl ?_; clear hA a; intro a hA
   refine D.valF hA rfl (fun _ => R.move rfl) rfl ?_; clear hA a; intro a hA
   refine D.valF hA rfl (fun _ => R.to (v := .int .u8 (byt want k)) (R.idxS Tryd.underlying9 rfl rfl (by omega)) (by first | rfl | (congr 2; done) | (congr 2; omega))) rfl ?_; clear hA a; intro a hA
   refine D.valF hA rfl (fun _ => R.neq rfl rfl) rfl ?_; clear hA a; intro a hA
   refine D.valF hA rfl (fun _ => R.assign rfl) rfl ?_; clear hA a; intro a hA
   refine D.done ?_
   replace hA : St 44 [(0, _), (1, _), (7, _), (8, _), (22, _)] a := hA.sub ((.cons rfl (.cons rfl (.cons rfl (.cons rfl (.cons rfl .nil))))))
   refine Ends.ite hA rfl (fun hc3 => ?_) (fun hc3 => ?_)
   ·
    have hT : sgW s W p = (p + k, 2) := by rw [hinv, hdr, sgW, sgE_miss hlt (by rw [← hbk]; exact hc3), if_pos (by decide)]
    refine Ends.seq (Ends.region ?_)
    refine S.val hA (R.assign rfl) rfl ?_; clear hA a; intro a hA
    refine S.done ?_
    refine Ends.ret1 Tryd.func32 Tryd.results32 hA rfl ?_
    replace hM := hM.firstN 1
    replace hM : Mem _ _ [pt rb #[.string s, .int .i64 (((p + k : Nat) : Int))] 51] _ := hM
    rw [hT]
    exact ⟨rfl, hM⟩
   ·
    have hok : sgE s (p + k) (W.getD k 0) = 0 := sgE_ok hlt (by rw [← hbk]; exact Decidable.not_not.1 hc3)
    refine Ends.skip (Ends.inBlock (Ends.region ?_))
    refine S.val hA (R.move rfl) rfl ?_; clear hA a; intro a hA
    refine S.val hA (R.nilCheck rfl) rfl ?_; clear hA a; intro a hA
    refine S.val hA (R.fieldAddr (q := 1) fi51_1 rfl rfl rfl) rfl ?_; clear hA a; intro a hA
    refine S.val hA (R.load sz3 rfl (hM.cell (k := 0) rfl rfl)) rfl ?_; clear hA a; intro a hA
    refine S.val hA (R.addI rfl rfl (r := (((p + k : Nat) : Int)) + 1) rfl (by omega)) rfl ?_; clear hA a; intro a hA
    refine S.val hA (R.nilCheck rfl) rfl ?_; clear hA a; intro a hA
    refine S.val hA (R.fieldAddr (q := 1) fi51_1 rfl rfl rfl) rfl ?_; clear hA a; intro a hA
    refine S.store (k := 0) hA hM sz3 rfl rfl rfl rfl rfl ?_; clear hM
    intro w2 hM
    replace hM : Mem _ _ [pt rb #[.string s, .int .i64 ((((p + k : Nat) : Int)) + 1)] 51] _ := hM
    refine S.done ?_
    replace hA : St 44 [(0, _), (1, _), (7, _), (8, _)] a := hA.sub ((.cons rfl (.cons rfl (.cons rfl (.cons rfl .nil)))))
    refine Ends.inBlock (Ends.region ?_)
    refine S.val hA (R.addI rfl rfl (r := ((k : Int)) + 1) rfl (by omega)) rfl ?_; clear hA a; intro a hA
    refine S.val hA (R.move rfl) rfl ?_; clear hA a; intro a hA
    refine S.done ?_
    rw [show ((p + k : Nat) : Int) + 1 = ((p + (k + 1) : Nat) : Int) by omega] at hM
    replace hM : Mem _ _ [pt rb #[.string s, .int .i64 (((p + (k + 1) : Nat) : Int))] 51] _ := hM
    replace hM := hM.firstN 1
    replace hM : Mem _ _ [pt rb #[.string s, .int .i64 (((p + (k + 1) : Nat) : Int))] 51] _ := hM
    exact hNext ((k + 1)) _ _ ((by show W.length - (k + 1) < W.length - k; omega)) ⟨hA.sub ((.cons rfl (.cons rfl (.cons rfl (.cons rfl .nil))))), hM, (by omega), (by omega), (by rw [hinv, hdr, sgW, hok, if_neg (by decide)]; rfl)⟩
 ·
  have hke : W.drop k = [] := List.drop_eq_nil_of_le (by omega)
  have hT : sgW s W p = (p + k, 0) := by rw [hinv, hke]; rfl
  refine Ends.exit rfl ?_
  replace hA : St 44 [] a := hA.sub (.nil)
  refine Ends.seq (Ends.region ?_)
  refine S.val hA (R.assign rfl) rfl ?_; clear hA a; intro a hA
  refine S.done ?_
  refine Ends.ret1 Tryd.func32 Tryd.results32 hA rfl ?_
  replace hM := hM.firstN 1
  replace hM : Mem _ _ [pt rb #[.string s, .int .i64 (((p + k : Nat) : Int))] 51] _ := hM
  rw [hT]
  exact ⟨rfl, hM⟩
set_option maxRecDepth 100000 in
set_option maxHeartbeats 400000 in
theorem number30 (s : ByteArray) (rb p : Nat) (hp : p ≤ s.size) (hs : s.size ≤ 4611686018427387904) (most : Int) (w : World) (hM : Mem w (feet [pt rb #[.string s, .int .i64 ((p : Int))] 51]) [pt rb #[.string s, .int .i64 ((p : Int))] 51] w) :
  Calls Tryd.prog 33 #[.pointer (some ⟨rb, 0, none⟩), .int .i64 most] w fun e w' => e = .returned (.tuple #[.int .i64 (nmE s p most).1, .int .i64 (nmE s p most).2.2]) ∧ Mem w (feet [pt rb #[.string s, .int .i64 ((p : Int))] 51]) [pt rb #[.string s, .int .i64 ((((nmE s p most).2.1 : Nat) : Int))] 51] w' := by
 have hbs := Below.refl (B := w.heap.size) w
 refine Calls.of_ends (vs := [.pointer (some ⟨rb, 0, none⟩), .int .i64 most]) Tryd.func33 rfl Tryd.ntmps33 rfl ?_
 intro a hA
 replace hA : St 45 [(0, _), (1, _)] a := hA
 refine Ends.seq (Ends.region ?_)
 refine S.val hA (R.assign rfl) rfl ?_; clear hA a; intro a hA
 refine S.val hA (R.assign rfl) rfl ?_; clear hA a; intro a hA
 refine S.done ?_
 refine Ends.seq (Ends.seq ?_)
 refine Ends.drawn (Mem w (feet [pt rb #[.string s, .int .i64 ((p : Int))] 51]) [pt rb #[.string s, .int .i64 ((p : Int))] 51]) (.cons (0, true) (.cons (1, true) (.cons (2, true) (.cons (3, true) (.cons (4, true) (.cons (5, true) (.cons (6, true) (.cons (7, true) (.cons (8, true) (.cons (9, true) .nil)))))))))) 10 mixed (by kernel_rfl) (by kernel_rfl) (by kernel_rfl) hM.drew ?_
 replace hM := hM.drew
 refine D.valF hA rfl (fun _ => R.move rfl) rfl ?_; clear hA a; intro a hA
 refine D.valF hA rfl (fun _ => R.nilCheck rfl) rfl ?_; clear hA a; intro a hA
 refine D.valF hA rfl (fun _ => R.fieldAddr (q := 1) fi51_1 rfl rfl rfl) rfl ?_; clear hA a; intro a hA
 refine D.val hA rfl (by kernel_rfl) (fun _ hM => R.load sz3 rfl (hM.cell (k := 0) rfl rfl)) rfl ?_; clear hA a; intro a hA
 refine D.valF hA rfl (fun _ => R.move rfl) rfl ?_; clear hA a; intro a hA
 refine D.valF hA rfl (fun _ => R.nilCheck rfl) rfl ?_; clear hA a; intro a hA
 refine D.valF hA rfl (fun _ => R.fieldAddr (q := 0) fi51_0 rfl rfl rfl) rfl ?_; clear hA a; intro a hA
 refine D.val hA rfl (by kernel_rfl) (fun _ hM => R.load sz9 rfl (hM.cell (k := 0) rfl rfl)) rfl ?_; clear hA a; intro a hA
 refine D.valF hA rfl (fun _ => R.lenStr Tryd.underlying9 rfl rfl) rfl ?_; clear hA a; intro a hA
 refine D.valF hA rfl (fun _ => R.eql rfl rfl) rfl ?_; clear hA a; intro a hA
 refine D.done ?_
 replace hA : St 45 [(0, _), (1, _), (18, _)] a := hA.sub ((.cons rfl (.cons rfl (.cons rfl .nil))))
 refine Ends.ite hA rfl (fun hc1 => ?_) (fun hc1 => ?_)
 ·
  have hT : nmE s p most = (0, p, 6) := if_pos (by omega)
  refine Ends.seq (Ends.region ?_)
  refine S.val hA (R.assign rfl) rfl ?_; clear hA a; intro a hA
  refine S.val hA (R.assign rfl) rfl ?_; clear hA a; intro a hA
  refine S.done ?_
  refine Ends.ret2 Tryd.func33 Tryd.results33 hA rfl rfl ?_
  replace hM := hM.firstN 1
  replace hM : Mem _ _ [pt rb #[.string s, .int .i64 ((p : Int))] 51] _ := hM
  rw [hT]
  exact ⟨rfl, hM⟩
 ·
  have hlt : p < s.size := by omega
  refine Ends.skip (Ends.seq ?_)
  refine Ends.drawn (Mem w (feet [pt rb #[.string s, .int .i64 ((p : Int))] 51]) [pt rb #[.string s, .int .i64 ((p : Int))] 51]) (.cons (0, true) (.cons (1, true) (.cons (2, true) (.cons (3, true) (.cons (4, true) (.cons (5, true) (.cons (6, true) (.cons (7, true) (.cons (8, false) (.cons (9, true) (.cons (10, true) (.cons (11, true) (.cons (12, true) (.cons (13, true) (.cons (14, true) (.cons (15, true) .nil)))))))))))))))) 16 mixed (by kernel_rfl) (by kernel_rfl) (by kernel_rfl) hM.drew ?_
  replace hM := hM.drew
  refine D.valF hA rfl (fun _ => R.move rfl) rfl ?_; clear hA a; intro a hA
  refine D.valF hA rfl (fun _ => R.nilCheck rfl) rfl ?_; clear hA a; intro a hA
  refine D.valF hA rfl (fun _ => R.fieldAddr (q := 0) fi51_0 rfl rfl rfl) rfl ?_; clear hA a; intro a hA
  refine D.val hA rfl (by kernel_rfl) (fun _ hM => R.load sz9 rfl (hM.cell (k := 0) rfl rfl)) rfl ?_; clear hA a; intro a hA
  refine D.valF hA rfl (fun _ => R.move rfl) rfl ?_; clear hA a; intro a hA
  refine D.valF hA rfl (fun _ => R.nilCheck rfl) rfl ?_; clear hA a; intro a hA
  refine D.valF hA rfl (fun _ => R.fieldAddr (q := 1) fi51_1 rfl rfl rfl) rfl ?_; clear hA a; intro a hA
  refine D.val hA rfl (by kernel_rfl) (fun _ hM => R.load sz3 rfl (hM.cell (k := 0) rfl rfl)) rfl ?_; clear hA a; intro a hA
  refine D.call hA rfl (R.callF Tryd.func38 rfl rfl rfl) rfl (read_any s ((p : Int)) (by omega) _) ?_; clear hA a
  rintro e w1 ⟨rfl, hb⟩
  replace hM := hM.callB hb; clear hb
  refine ⟨.tuple #[.int .i64 ((readI s ((p : Int))).1), .int .i64 ((readI s ((p : Int))).2.1), .int .i64 ((readI s ((p : Int))).2.2)], rfl, hM, fun a hA => ?_⟩
  refine D.valF hA rfl (fun _ => R.move rfl) rfl ?_; clear hA a; intro a hA
  refine D.valF hA rfl (fun _ => R.extract (v := .int .i64 ((readI s ((p : Int))).1)) rfl rfl) rfl ?_; clear hA a; intro a hA
  refine D.valF hA rfl (fun _ => R.extract (v := .int .i64 ((readI s ((p : Int))).2.1)) rfl rfl) rfl ?_; clear hA a; intro a hA
  refine D.valF hA rfl (fun _ => R.extract (v := .int .i64 ((readI s ((p : Int))).2.2)) rfl rfl) rfl ?_; clear hA a; intro a hA
  refine D.valF hA rfl (fun _ => R.assign rfl) rfl ?_; clear hA a; intro a hA
  refine D.valF hA rfl (fun _ => R.assign rfl) rfl ?_; clear hA a; intro a hA
  refine D.valF hA rfl (fun _ => R.assign rfl) rfl ?_; clear hA a; intro a hA
  refine D.done ?_
  replace hA : St 45 [(0, _), (1, _), (6, _), (7, _), (8, _)] a := hA.sub ((.cons rfl (.cons rfl (.cons rfl (.cons rfl (.cons rfl .nil))))))
  refine Ends.seq (Ends.block (Ends.seq (Ends.region ?_)))
  refine S.val hA (R.move rfl) rfl ?_; clear hA a; intro a hA
  refine S.val hA (R.neq rfl rfl) rfl ?_; clear hA a; intro a hA
  refine S.val hA (R.assign rfl) rfl ?_; clear hA a; intro a hA
  refine S.done ?_
  refine Ends.ite hA rfl (fun hc2 => ?_) (fun hc2 => ?_)
  ·
   have hT : nmE s p most = (0, p, (readI s p).2.2) := by unfold nmE; rw [if_neg (by omega), if_pos hc2]
   refine Ends.seq (Ends.region ?_)
   refine S.val hA (R.move rfl) rfl ?_; clear hA a; intro a hA
   refine S.val hA (R.assign rfl) rfl ?_; clear hA a; intro a hA
   refine S.val hA (R.assign rfl) rfl ?_; clear hA a; intro a hA
   refine S.done ?_
   replace hA : St 45 [(0, _), (4, _), (5, _), (6, _), (7, _)] a := hA.sub ((.cons rfl (.cons rfl (.cons rfl (.cons rfl (.cons rfl .nil))))))
   refine Ends.ret2 Tryd.func33 Tryd.results33 hA rfl rfl ?_
   replace hM := hM.firstN 1
   replace hM : Mem _ _ [pt rb #[.string s, .int .i64 ((p : Int))] 51] _ := hM
   rw [hT]
   exact ⟨rfl, hM⟩
  ·
   have he0 : (readI s p).2.2 = 0 := Decidable.not_not.1 hc2
   refine Ends.seq (Ends.region ?_)
   refine S.val hA (R.move rfl) rfl ?_; clear hA a; intro a hA
   refine S.val hA (R.move rfl) rfl ?_; clear hA a; intro a hA
   refine S.val hA (R.gtr rfl rfl) rfl ?_; clear hA a; intro a hA
   refine S.val hA (R.assign rfl) rfl ?_; clear hA a; intro a hA
   refine S.done ?_
   replace hA : St 45 [(0, _), (6, _), (7, _), (36, _)] a := hA.sub ((.cons rfl (.cons rfl (.cons rfl (.cons rfl .nil)))))
   refine Ends.ite hA rfl (fun hc3 => ?_) (fun hc3 => ?_)
   ·
    have hT : nmE s p most = (0, p, 5) := by unfold nmE; rw [if_neg (by omega), if_neg (not_not_intro he0), if_pos hc3]
    refine Ends.seq (Ends.region ?_)
    refine S.val hA (R.assign rfl) rfl ?_; clear hA a; intro a hA
    refine S.val hA (R.assign rfl) rfl ?_; clear hA a; intro a hA
    refine S.done ?_
    refine Ends.ret2 Tryd.func33 Tryd.results33 hA rfl rfl ?_
    replace hM := hM.firstN 1
    replace hM : Mem _ _ [pt rb #[.string s, .int .i64 ((p : Int))] 51] _ := hM
    rw [hT]
    exact ⟨rfl, hM⟩
   ·
    obtain ⟨hT, hT2⟩ := nm_ok hlt he0 hc3
    refine Ends.skip (Ends.inBlock (Ends.seq (Ends.region ?_)))
    refine S.val hA (R.move rfl) rfl ?_; clear hA a; intro a hA
    refine S.val hA (R.move rfl) rfl ?_; clear hA a; intro a hA
    refine S.val hA (R.nilCheck rfl) rfl ?_; clear hA a; intro a hA
    refine S.val hA (R.fieldAddr (q := 1) fi51_1 rfl rfl rfl) rfl ?_; clear hA a; intro a hA
    refine S.store (k := 0) hA hM sz3 rfl rfl rfl rfl rfl ?_; clear hM
    intro w2 hM
    replace hM : Mem _ _ [pt rb #[.string s, .int .i64 ((readI s ((p : Int))).2.1)] 51] _ := hM
    refine S.done ?_
    replace hA : St 45 [(6, _)] a := hA.sub ((.cons rfl .nil))
    refine Ends.seq (Ends.region ?_)
    refine S.val hA (R.move rfl) rfl ?_; clear hA a; intro a hA
    refine S.val hA (R.assign rfl) rfl ?_; clear hA a; intro a hA
    refine S.val hA (R.assign rfl) rfl ?_; clear hA a; intro a hA
    refine S.done ?_
    refine Ends.ret2 Tryd.func33 Tryd.results33 hA rfl rfl ?_
    replace hM := hM.firstN 1
    replace hM : Mem _ _ [pt rb #[.string s, .int .i64 ((readI s ((p : Int))).2.1)] 51] _ := hM
    rw [hT2] at hM
    rw [hT]
    exact ⟨rfl, hM⟩
theorem sgW_le (s : ByteArray) : ∀ (W : List Int) (p : Nat), p ≤ s.size → (sgW s W p).1 ≤ s.size
  | [], p, h => h
  | c :: W, p, h => by
    rw [sgW]; split
    · exact h
    · rename_i e
      exact sgW_le s W (p + 1) (sgE_lt (Decidable.not_not.1 e))
theorem sg1_ok {s : ByteArray} {c : Int} {p : Nat} (h : sgE s p c = 0) : sgW s [c] p = (p + 1, 0) := by rw [sgW, if_neg (not_not_intro h)]; rfl
theorem sg1_no {s : ByteArray} {c : Int} {p : Nat} (h : sgE s p c ≠ 0) : sgW s [c] p = (p, sgE s p c) := by rw [sgW, if_pos h]
theorem sg1_e (s : ByteArray) (c : Int) (p : Nat) : (sgW s [c] p).2 = sgE s p c := by
  by_cases h : sgE s p c = 0
  · rw [sg1_ok h, h]
  · rw [sg1_no h]
theorem cHd_fin {s : ByteArray} (f1 : (cH1 s).2 = 0) (f2 : (cH2 s).2.2 = 0) (f3 : sgE s (cH2 s).2.1 32 = 0) (f4 : (cH3 s).2.2 = 0) (f5 : ¬ (cH3 s).1 = 0) : cHd s = sgW s [10] (cH3 s).2.1 := by
  unfold cHd
  rw [if_neg (not_not_intro f1), if_neg (not_not_intro f2), if_neg (not_not_intro f3), if_neg (not_not_intro f4), if_neg f5]
  split
  · rename_i e; rw [sg1_no e]
  · rename_i e; rw [sg1_ok (Decidable.not_not.1 e)]
theorem cHd_le (s : ByteArray) (f : (cHd s).2 = 0) : (cHd s).1 ≤ s.size := by
  unfold cHd at f ⊢
  split
  · rename_i e; rw [if_pos e] at f; exact absurd f e
  rename_i e1; rw [if_neg e1] at f
  split
  · rename_i e; rw [if_pos e] at f; exact absurd f e
  rename_i e2; rw [if_neg e2] at f
  split
  · rename_i e; rw [if_pos e] at f; exact absurd f e
  rename_i e3; rw [if_neg e3] at f
  split
  · rename_i e; rw [if_pos e] at f; exact absurd f e
  rename_i e4; rw [if_neg e4] at f
  split
  · rename_i e; rw [if_pos e] at f; exact absurd (show (1 : Int) = 0 from f) (by decide)
  rename_i e5; rw [if_neg e5] at f
  split
  · rename_i e; rw [if_pos e] at f; exact absurd f e
  rename_i e6
  have := sgE_lt (Decidable.not_not.1 e6)
  exact this
set_option maxRecDepth 100000 in
set_option maxHeartbeats 400000 in
theorem head30 (s : ByteArray) (rb : Nat) (hs : s.size ≤ 4611686018427387904) (w : World) (hM : Mem w (feet [pt rb #[.string s, .int .i64 (0)] 51]) [pt rb #[.string s, .int .i64 0] 51] w) :
  Calls Tryd.prog 21 #[.pointer (some ⟨rb, 0, none⟩)] w fun e w' => ∃ hv hn9, e = .returned (.tuple #[.int .i64 hv, .int .i64 hn9, .int .i64 (cHd s).2]) ∧ ((cHd s).2 = 0 → hv = (cH2 s).1 ∧ hn9 = (cH3 s).1) ∧ Mem w (feet [pt rb #[.string s, .int .i64 (0)] 51]) [pt rb #[.string s, .int .i64 ((((cHd s).1 : Nat) : Int))] 51] w' := by
 have hbs := Below.refl (B := w.heap.size) w
 refine Calls.of_ends (vs := [.pointer (some ⟨rb, 0, none⟩)]) Tryd.func21 rfl Tryd.ntmps21 rfl ?_
 intro a hA
 replace hA : St 46 [(0, _)] a := hA
 refine Ends.seq (Ends.region ?_)
 refine S.val hA (R.assign rfl) rfl ?_; clear hA a; intro a hA
 refine S.val hA (R.assign rfl) rfl ?_; clear hA a; intro a hA
 refine S.val hA (R.assign rfl) rfl ?_; clear hA a; intro a hA
 refine S.done ?_
 refine Ends.seq (Ends.seq (Ends.region ?_))
 refine S.val hA (R.move rfl) rfl ?_; clear hA a; intro a hA
 refine S.call hA (R.callF Tryd.func32 rfl rfl rfl) rfl (signs30 s rb 0 (Nat.zero_le _) hs ⟨#[67, 69, 82, 84, 32]⟩ aheadW (by decide) (by decide) (by decide) _ (hM.hereN 1)) ?_; clear hA a
 rintro e w1 ⟨rfl, hn⟩
 replace hM : Mem _ _ [pt rb #[.string s, .int .i64 ((((cH1 s).1 : Nat) : Int))] 51] _ := hM.callL 1 hn; clear hn
 refine ⟨.int .i64 ((cH1 s).2), rfl, fun a hA => ?_⟩
 refine S.val hA (R.assign rfl) rfl ?_; clear hA a; intro a hA
 refine S.done ?_
 replace hA : St 46 [(0, _), (4, _)] a := hA.sub ((.cons rfl (.cons rfl .nil)))
 refine Ends.seq (Ends.region ?_)
 refine S.val hA (R.move rfl) rfl ?_; clear hA a; intro a hA
 refine S.val hA (R.neq rfl rfl) rfl ?_; clear hA a; intro a hA
 refine S.done ?_
 refine Ends.ite hA rfl (fun hc1 => ?_) (fun hc1 => ?_)
 ·
  have hT : cHd s = cH1 s := by unfold cHd; rw [if_pos hc1]
  refine Ends.seq (Ends.region ?_)
  refine S.val hA (R.move rfl) rfl ?_; clear hA a; intro a hA
  refine S.val hA (R.assign rfl) rfl ?_; clear hA a; intro a hA
  refine S.val hA (R.assign rfl) rfl ?_; clear hA a; intro a hA
  refine S.val hA (R.assign rfl) rfl ?_; clear hA a; intro a hA
  refine S.done ?_
  refine Ends.ret3 Tryd.func21 Tryd.results21 hA rfl rfl rfl ?_
  replace hM := hM.firstN 1
  replace hM : Mem _ _ [pt rb #[.string s, .int .i64 ((((cH1 s).1 : Nat) : Int))] 51] _ := hM
  rw [hT]
  exact ⟨_, _, rfl, fun h9 => absurd h9 hc1, hM⟩
 ·
  have f1 := Decidable.not_not.1 hc1
  have k1 : (cH1 s).1 = 5 := by have h9 := sgW_inv (L := s.data.toList) p1 0 (cH1 s).1 (by rw [data_bs]; exact Prod.ext rfl f1); exact h9.1.trans (by decide)
  have k5 : 5 ≤ s.size := by have h9 := sgW_le s aheadW 0 (Nat.zero_le _); rw [show sgW s aheadW 0 = cH1 s from rfl, k1] at h9; exact h9
  rw [k1] at hM
  refine Ends.skip (Ends.seq (Ends.seq (Ends.region ?_)))
  refine S.val hA (R.move rfl) rfl ?_; clear hA a; intro a hA
  have hn2 : 5 ≤ (cH2 s).2.1 ∧ (cH2 s).2.1 ≤ s.size ∧ (5 < (cH2 s).2.1 ∨ (cH2 s).2.2 ≠ 0) := nm_le k5
  refine S.call hA (R.callF Tryd.func33 rfl rfl rfl) rfl (number30 s rb 5 k5 hs 1125899906842624 _ (hM.hereN 1)) ?_; clear hA a
  rintro e w2 ⟨rfl, hn⟩
  replace hM : Mem _ _ [pt rb #[.string s, .int .i64 ((((cH2 s).2.1 : Nat) : Int))] 51] _ := hM.callL 1 hn; clear hn
  refine ⟨.tuple #[.int .i64 ((cH2 s).1), .int .i64 ((cH2 s).2.2)], rfl, fun a hA => ?_⟩
  refine S.val hA (R.move rfl) rfl ?_; clear hA a; intro a hA
  refine S.val hA (R.extract (v := .int .i64 ((cH2 s).1)) rfl rfl) rfl ?_; clear hA a; intro a hA
  refine S.val hA (R.extract (v := .int .i64 ((cH2 s).2.2)) rfl rfl) rfl ?_; clear hA a; intro a hA
  refine S.val hA (R.assign rfl) rfl ?_; clear hA a; intro a hA
  refine S.val hA (R.assign rfl) rfl ?_; clear hA a; intro a hA
  refine S.done ?_
  replace hA : St 46 [(0, _), (2, _), (4, _)] a := hA.sub ((.cons rfl (.cons rfl (.cons rfl .nil))))
  refine Ends.seq (Ends.region ?_)
  refine S.val hA (R.move rfl) rfl ?_; clear hA a; intro a hA
  refine S.val hA (R.neq rfl rfl) rfl ?_; clear hA a; intro a hA
  refine S.done ?_
  refine Ends.ite hA rfl (fun hc2 => ?_) (fun hc2 => ?_)
  ·
   have hT : cHd s = (cH2 s).2 := by unfold cHd; rw [if_neg (not_not_intro f1), if_pos hc2]
   refine Ends.seq (Ends.region ?_)
   refine S.val hA (R.move rfl) rfl ?_; clear hA a; intro a hA
   refine S.val hA (R.assign rfl) rfl ?_; clear hA a; intro a hA
   refine S.val hA (R.assign rfl) rfl ?_; clear hA a; intro a hA
   refine S.val hA (R.assign rfl) rfl ?_; clear hA a; intro a hA
   refine S.done ?_
   refine Ends.ret3 Tryd.func21 Tryd.results21 hA rfl rfl rfl ?_
   replace hM := hM.firstN 1
   replace hM : Mem _ _ [pt rb #[.string s, .int .i64 ((((cH2 s).2.1 : Nat) : Int))] 51] _ := hM
   rw [hT]
   exact ⟨_, _, rfl, fun h9 => absurd h9 hc2, hM⟩
  ·
   have f2 := Decidable.not_not.1 hc2
   refine Ends.skip (Ends.seq (Ends.seq (Ends.region ?_)))
   refine S.val hA (R.move rfl) rfl ?_; clear hA a; intro a hA
   refine S.call hA (R.callF Tryd.func32 rfl rfl rfl) rfl ((by have h9 := signs30 s rb (cH2 s).2.1 (by omega) hs ⟨#[32]⟩ [32] (by decide) (by decide) (by decide) _ (hM.hereN 1); rw [sg1_e] at h9; exact h9)) ?_; clear hA a
   rintro e w3 ⟨rfl, hn⟩
   replace hM : Mem _ _ [pt rb #[.string s, .int .i64 ((((sgW s [32] (cH2 s).2.1).1 : Nat) : Int))] 51] _ := hM.callL 1 hn; clear hn
   refine ⟨.int .i64 (sgE s (cH2 s).2.1 32), rfl, fun a hA => ?_⟩
   refine S.val hA (R.assign rfl) rfl ?_; clear hA a; intro a hA
   refine S.done ?_
   replace hA : St 46 [(0, _), (2, _), (4, _)] a := hA.sub ((.cons rfl (.cons rfl (.cons rfl .nil))))
   refine Ends.seq (Ends.region ?_)
   refine S.val hA (R.move rfl) rfl ?_; clear hA a; intro a hA
   refine S.val hA (R.neq rfl rfl) rfl ?_; clear hA a; intro a hA
   refine S.done ?_
   refine Ends.ite hA rfl (fun hc3 => ?_) (fun hc3 => ?_)
   ·
    have hT : cHd s = ((cH2 s).2.1, sgE s (cH2 s).2.1 32) := by unfold cHd; rw [if_neg (not_not_intro f1), if_neg (not_not_intro f2), if_pos hc3]
    refine Ends.seq (Ends.region ?_)
    refine S.val hA (R.move rfl) rfl ?_; clear hA a; intro a hA
    refine S.val hA (R.assign rfl) rfl ?_; clear hA a; intro a hA
    refine S.val hA (R.assign rfl) rfl ?_; clear hA a; intro a hA
    refine S.val hA (R.assign rfl) rfl ?_; clear hA a; intro a hA
    refine S.done ?_
    refine Ends.ret3 Tryd.func21 Tryd.results21 hA rfl rfl rfl ?_
    replace hM := hM.firstN 1
    replace hM : Mem _ _ [pt rb #[.string s, .int .i64 ((((sgW s [32] (cH2 s).2.1).1 : Nat) : Int))] 51] _ := hM
    rw [sg1_no hc3] at hM
    rw [hT]
    exact ⟨_, _, rfl, fun h9 => absurd h9 hc3, hM⟩
   ·
    have f3 := Decidable.not_not.1 hc3
    refine Ends.skip (Ends.seq ?_)
    have k3 := sgE_lt f3
    rw [sg1_ok f3] at hM
    replace hM : Mem _ _ [pt rb #[.string s, .int .i64 ((((cH2 s).2.1 + 1 : Nat) : Int))] 51] _ := hM
    refine Ends.region ?_
    refine S.val hA (R.move rfl) rfl ?_; clear hA a; intro a hA
    refine S.val hA (R.nilCheck rfl) rfl ?_; clear hA a; intro a hA
    refine S.val hA (R.fieldAddr (q := 1) fi51_1 rfl rfl rfl) rfl ?_; clear hA a; intro a hA
    refine S.val hA (R.load sz3 rfl (hM.cell (k := 0) rfl rfl)) rfl ?_; clear hA a; intro a hA
    refine S.val hA (R.assign rfl) rfl ?_; clear hA a; intro a hA
    refine S.done ?_
    replace hA : St 46 [(0, _), (2, _), (5, _)] a := hA.sub ((.cons rfl (.cons rfl (.cons rfl .nil))))
    refine Ends.seq (Ends.seq (Ends.region ?_))
    refine S.val hA (R.move rfl) rfl ?_; clear hA a; intro a hA
    have hn3 : (cH2 s).2.1 + 1 ≤ (cH3 s).2.1 ∧ (cH3 s).2.1 ≤ s.size ∧ ((cH2 s).2.1 + 1 < (cH3 s).2.1 ∨ (cH3 s).2.2 ≠ 0) := nm_le (by omega)
    refine S.call hA (R.callF Tryd.func33 rfl rfl rfl) rfl (number30 s rb ((cH2 s).2.1 + 1) (by omega) hs 64 _ (hM.hereN 1)) ?_; clear hA a
    rintro e w4 ⟨rfl, hn⟩
    replace hM : Mem _ _ [pt rb #[.string s, .int .i64 ((((cH3 s).2.1 : Nat) : Int))] 51] _ := hM.callL 1 hn; clear hn
    refine ⟨.tuple #[.int .i64 ((cH3 s).1), .int .i64 ((cH3 s).2.2)], rfl, fun a hA => ?_⟩
    refine S.val hA (R.move rfl) rfl ?_; clear hA a; intro a hA
    refine S.val hA (R.extract (v := .int .i64 ((cH3 s).1)) rfl rfl) rfl ?_; clear hA a; intro a hA
    refine S.val hA (R.extract (v := .int .i64 ((cH3 s).2.2)) rfl rfl) rfl ?_; clear hA a; intro a hA
    refine S.val hA (R.assign rfl) rfl ?_; clear hA a; intro a hA
    refine S.val hA (R.assign rfl) rfl ?_; clear hA a; intro a hA
    refine S.done ?_
    replace hA : St 46 [(0, _), (2, _), (3, _), (4, _), (5, _)] a := hA.sub ((.cons rfl (.cons rfl (.cons rfl (.cons rfl (.cons rfl .nil))))))
    refine Ends.seq (Ends.region ?_)
    refine S.val hA (R.move rfl) rfl ?_; clear hA a; intro a hA
    refine S.val hA (R.neq rfl rfl) rfl ?_; clear hA a; intro a hA
    refine S.done ?_
    refine Ends.ite hA rfl (fun hc4 => ?_) (fun hc4 => ?_)
    ·
     have hT : cHd s = (cH3 s).2 := by unfold cHd; rw [if_neg (not_not_intro f1), if_neg (not_not_intro f2), if_neg (not_not_intro f3), if_pos hc4]
     refine Ends.seq (Ends.region ?_)
     refine S.val hA (R.move rfl) rfl ?_; clear hA a; intro a hA
     refine S.val hA (R.assign rfl) rfl ?_; clear hA a; intro a hA
     refine S.val hA (R.assign rfl) rfl ?_; clear hA a; intro a hA
     refine S.val hA (R.assign rfl) rfl ?_; clear hA a; intro a hA
     refine S.done ?_
     refine Ends.ret3 Tryd.func21 Tryd.results21 hA rfl rfl rfl ?_
     replace hM := hM.firstN 1
     replace hM : Mem _ _ [pt rb #[.string s, .int .i64 ((((cH3 s).2.1 : Nat) : Int))] 51] _ := hM
     rw [hT]
     exact ⟨_, _, rfl, fun h9 => absurd h9 hc4, hM⟩
    ·
     have f4 := Decidable.not_not.1 hc4
     refine Ends.skip (Ends.seq (Ends.seq (Ends.region ?_)))
     refine S.val hA (R.move rfl) rfl ?_; clear hA a; intro a hA
     refine S.val hA (R.eql rfl rfl) rfl ?_; clear hA a; intro a hA
     refine S.done ?_
     replace hA : St 46 [(0, _), (2, _), (3, _), (5, _), (37, _)] a := hA.sub ((.cons rfl (.cons rfl (.cons rfl (.cons rfl (.cons rfl .nil))))))
     refine Ends.ite hA rfl (fun hc5 => ?_) (fun hc5 => ?_)
     ·
      have hT : cHd s = ((cH2 s).2.1 + 1, 1) := by unfold cHd; rw [if_neg (not_not_intro f1), if_neg (not_not_intro f2), if_neg (not_not_intro f3), if_neg (not_not_intro f4), if_pos hc5]
      refine Ends.seq (Ends.region ?_)
      refine S.val hA (R.move rfl) rfl ?_; clear hA a; intro a hA
      refine S.val hA (R.move rfl) rfl ?_; clear hA a; intro a hA
      refine S.val hA (R.nilCheck rfl) rfl ?_; clear hA a; intro a hA
      refine S.val hA (R.fieldAddr (q := 1) fi51_1 rfl rfl rfl) rfl ?_; clear hA a; intro a hA
      refine S.store (k := 0) hA hM sz3 rfl rfl rfl rfl rfl ?_; clear hM
      intro w5 hM
      replace hM : Mem _ _ [pt rb #[.string s, .int .i64 ((((cH2 s).2.1 + 1 : Nat) : Int))] 51] _ := hM
      refine S.done ?_
      replace hA : St 46 [(0, _)] a := hA.sub ((.cons rfl .nil))
      refine Ends.seq (Ends.region ?_)
      refine S.val hA (R.assign rfl) rfl ?_; clear hA a; intro a hA
      refine S.val hA (R.assign rfl) rfl ?_; clear hA a; intro a hA
      refine S.val hA (R.assign rfl) rfl ?_; clear hA a; intro a hA
      refine S.done ?_
      refine Ends.ret3 Tryd.func21 Tryd.results21 hA rfl rfl rfl ?_
      replace hM := hM.firstN 1
      replace hM : Mem _ _ [pt rb #[.string s, .int .i64 ((((cH2 s).2.1 + 1 : Nat) : Int))] 51] _ := hM
      rw [hT]
      exact ⟨_, _, rfl, fun h9 => absurd (show (1 : Int) = 0 from h9) (by decide), hM⟩
     ·
      have f5 : ¬ (cH3 s).1 = 0 := hc5
      refine Ends.skip (Ends.seq (Ends.region ?_))
      refine S.val hA (R.move rfl) rfl ?_; clear hA a; intro a hA
      refine S.val hA (R.move rfl) rfl ?_; clear hA a; intro a hA
      refine S.val hA (R.move rfl) rfl ?_; clear hA a; intro a hA
      refine S.call hA (R.callF Tryd.func32 rfl rfl rfl) rfl (signs30 s rb (cH3 s).2.1 (by omega) hs ⟨#[10]⟩ [10] (by decide) (by decide) (by decide) _ (hM.hereN 1)) ?_; clear hA a
      rintro e w6 ⟨rfl, hn⟩
      replace hM : Mem _ _ [pt rb #[.string s, .int .i64 ((((sgW s [10] (cH3 s).2.1).1 : Nat) : Int))] 51] _ := hM.callL 1 hn; clear hn
      refine ⟨.int .i64 ((sgW s [10] (cH3 s).2.1).2), rfl, fun a hA => ?_⟩
      refine S.val hA (R.assign rfl) rfl ?_; clear hA a; intro a hA
      refine S.val hA (R.assign rfl) rfl ?_; clear hA a; intro a hA
      refine S.val hA (R.assign rfl) rfl ?_; clear hA a; intro a hA
      refine S.done ?_
      replace hA : St 46 [(2, _), (3, _), (4, _)] a := hA.sub ((.cons rfl (.cons rfl (.cons rfl .nil))))
      refine Ends.ret3 Tryd.func21 Tryd.results21 hA rfl rfl rfl ?_
      replace hM := hM.firstN 1
      replace hM : Mem _ _ [pt rb #[.string s, .int .i64 ((((sgW s [10] (cH3 s).2.1).1 : Nat) : Int))] 51] _ := hM
      have hT := cHd_fin f1 f2 f3 f4 f5
      rw [hT]
      exact ⟨_, _, rfl, fun _ => ⟨rfl, rfl⟩, hM⟩
theorem cNb_len (s : ByteArray) (n p : Nat) : ∀ k, (cNb s n p k).2.2 = 0 → (cNb s n p k).1.length = k
  | 0, _ => rfl
  | k + 1, h => by
    rw [cNb] at h ⊢
    split at h
    · rename_i e; exact absurd h e
    rename_i e; rw [if_neg e]
    split at h
    · rename_i e; exact absurd h e
    rename_i e2; rw [if_neg e2]
    split at h
    · rename_i e; exact absurd h e
    rename_i e3; rw [if_neg e3, List.length_append, cNb_len s n p k (Decidable.not_not.1 e)]; rfl
set_option maxRecDepth 100000 in
set_option maxHeartbeats 400000 in
theorem numbers30 (s : ByteArray) (rb p : Nat) (hp : p ≤ s.size) (hs : s.size ≤ 4611686018427387904) (n : Nat) (hn1 : 1 ≤ n) (hn64 : n ≤ 64) (w : World) (hM : Mem w (feet [pt rb #[.string s, .int .i64 ((p : Int))] 51]) [pt rb #[.string s, .int .i64 ((p : Int))] 51] w) :
  Calls Tryd.prog 22 #[.pointer (some ⟨rb, 0, none⟩), .int .i64 ((n : Int))] w fun e w' => ∃ oa oc, e = .returned (.tuple #[.slice oa (cNb s n p n).1.length oc, .int .i64 (cNb s n p n).2.2]) ∧ Mem w (feet [pt rb #[.string s, .int .i64 ((p : Int))] 51]) [pt rb #[.string s, .int .i64 ((((cNb s n p n).2.1 : Nat) : Int))] 51, own 3 1 (.slice oa (((cNb s n p n).1).length) oc) (((cNb s n p n).1).length) (((cNb s n p n).1).map (Value.int .i64))] w' := by
 have hbs := Below.refl (B := w.heap.size) w
 refine Calls.of_ends (vs := [.pointer (some ⟨rb, 0, none⟩), .int .i64 ((n : Int))]) Tryd.func22 rfl Tryd.ntmps22 rfl ?_
 intro a hA
 replace hA : St 40 [(0, _), (1, _)] a := hA
 refine Ends.seq (Ends.region ?_)
 refine S.val hA (R.assign rfl) rfl ?_; clear hA a; intro a hA
 refine S.val hA (R.assign rfl) rfl ?_; clear hA a; intro a hA
 refine S.done ?_
 refine Ends.seq (Ends.region ?_)
 refine S.val hA (R.assign rfl) rfl ?_; clear hA a; intro a hA
 refine S.done ?_
 refine Ends.seq (Ends.seq (Ends.region ?_))
 refine S.val hA (R.move rfl) rfl ?_; clear hA a; intro a hA
 refine S.val hA (R.move rfl) rfl ?_; clear hA a; intro a hA
 refine S.done ?_
 refine Ends.block ?_
 replace hM := hM.ownNil 3 1
 replace hM : Mem _ _ [own 3 1 (.slice none ((([] : List Int)).length) 0) ((([] : List Int)).length) ((([] : List Int)).map (Value.int .i64)), pt rb #[.string s, .int .i64 ((p : Int))] 51] _ := hM
 replace hM := hM.front (k := 1) rfl
 replace hM : Mem _ _ [pt rb #[.string s, .int .i64 ((((cNb s n p 0).2.1 : Nat) : Int))] 51, own 3 1 (.slice none (((cNb s n p 0).1).length) 0) (((cNb s n p 0).1).length) (((cNb s n p 0).1).map (Value.int .i64))] _ := hM
 refine Ends.loop (σ := Nat × Option Addr × Nat) (fun (k, oa, oc) (a : Act) (wv : World) => St 40 [(0, .pointer (some ⟨rb, 0, none⟩)), (1, .int .i64 ((n : Int))), (6, .slice oa ((cNb s n p k).1.length) oc), (12, .int .i64 ((n : Int))), (13, .int .i64 ((k : Int)))] a ∧ Mem w (feet [pt rb #[.string s, .int .i64 ((p : Int))] 51]) [pt rb #[.string s, .int .i64 ((((cNb s n p k).2.1 : Nat) : Int))] 51, own 3 1 (.slice oa (((cNb s n p k).1).length) oc) (((cNb s n p k).1).length) (((cNb s n p k).1).map (Value.int .i64))] wv ∧ (k ≤ n) ∧ ((cNb s n p k).2.2 = 0) ∧ ((cNb s n p k).2.1 ≤ s.size)) (fun (k, oa, oc) => n - k) ((0, none, 0)) ⟨hA.sub ((.cons rfl (.cons rfl (.cons rfl (.cons rfl (.cons rfl .nil)))))), hM, (Nat.zero_le _), rfl, hp⟩ ?_
 clear hA hM a
 rintro ⟨k, oa, oc⟩ a w1 ⟨hA, hM, hk, hz, hq⟩ hNext
 refine Ends.seq (Ends.region ?_)
 refine S.val hA (R.lss rfl rfl) rfl ?_; clear hA a; intro a hA
 refine S.done ?_
 refine Ends.seq ?_
 refine Ends.ite hA rfl (fun hc1 => ?_) (fun hc1 => ?_)
 ·
  have hlk := cNb_len s n p k hz
  refine Ends.skip (Ends.seq (Ends.block (Ends.seq (Ends.region ?_))))
  refine S.val hA (R.move rfl) rfl ?_; clear hA a; intro a hA
  refine S.val hA (R.assign rfl) rfl ?_; clear hA a; intro a hA
  refine S.done ?_
  refine Ends.seq (Ends.region ?_)
  refine S.val hA (R.move rfl) rfl ?_; clear hA a; intro a hA
  have hnl := nm_le (s := s) (p := (cNb s n p k).2.1) (most := 999) (by omega)
  have hnv := nm_val (s := s) (p := (cNb s n p k).2.1) (most := 999) (by decide)
  refine S.call hA (R.callF Tryd.func33 rfl rfl rfl) rfl (number30 s rb ((cNb s n p k).2.1) (by omega) hs 999 _ (hM.hereN 1)) ?_; clear hA a
  rintro e w2 ⟨rfl, hn⟩
  replace hM : Mem _ _ [pt rb #[.string s, .int .i64 ((((nmE s ((cNb s n p k).2.1) 999).2.1 : Nat) : Int))] 51, own 3 1 (.slice oa (((cNb s n p k).1).length) oc) (((cNb s n p k).1).length) (((cNb s n p k).1).map (Value.int .i64))] _ := hM.callL 1 hn; clear hn
  refine ⟨.tuple #[.int .i64 ((nmE s ((cNb s n p k).2.1) 999).1), .int .i64 ((nmE s ((cNb s n p k).2.1) 999).2.2)], rfl, fun a hA => ?_⟩
  refine S.val hA (R.move rfl) rfl ?_; clear hA a; intro a hA
  refine S.val hA (R.extract (v := .int .i64 ((nmE s ((cNb s n p k).2.1) 999).1)) rfl rfl) rfl ?_; clear hA a; intro a hA
  refine S.val hA (R.extract (v := .int .i64 ((nmE s ((cNb s n p k).2.1) 999).2.2)) rfl rfl) rfl ?_; clear hA a; intro a hA
  refine S.val hA (R.assign rfl) rfl ?_; clear hA a; intro a hA
  refine S.val hA (R.assign rfl) rfl ?_; clear hA a; intro a hA
  refine S.done ?_
  replace hA : St 40 [(0, _), (1, _), (6, _), (7, _), (8, _), (9, _), (12, _), (13, _)] a := hA.sub ((.cons rfl (.cons rfl (.cons rfl (.cons rfl (.cons rfl (.cons rfl (.cons rfl (.cons rfl .nil)))))))))
  refine Ends.seq (Ends.seq (Ends.region ?_))
  refine S.val hA (R.move rfl) rfl ?_; clear hA a; intro a hA
  refine S.val hA (R.neq rfl rfl) rfl ?_; clear hA a; intro a hA
  refine S.done ?_
  refine Ends.ite hA rfl (fun hc2 => ?_) (fun hc2 => ?_)
  ·
   have hT : (cNb s n p (k + 1)) = ([], (nmE s (cNb s n p k).2.1 999).2) := by rw [cNb, if_neg (not_not_intro hz), if_pos hc2]
   have hTd := cNb_stuck (s := s) (n := n) (p := p) (k := k + 1) (by rw [hT]; exact hc2) (n - (k + 1))
   rw [show k + 1 + (n - (k + 1)) = n by omega, hT] at hTd
   refine Ends.seq (Ends.region ?_)
   refine S.val hA (R.move rfl) rfl ?_; clear hA a; intro a hA
   refine S.val hA (R.assign rfl) rfl ?_; clear hA a; intro a hA
   refine S.val hA (R.assign rfl) rfl ?_; clear hA a; intro a hA
   refine S.done ?_
   replace hA : St 40 [(0, _), (1, _), (4, _), (5, _), (6, _), (7, _), (8, _), (12, _), (13, _)] a := hA.sub ((.cons rfl (.cons rfl (.cons rfl (.cons rfl (.cons rfl (.cons rfl (.cons rfl (.cons rfl (.cons rfl .nil))))))))))
   refine Ends.ret2 Tryd.func22 Tryd.results22 hA rfl rfl ?_
   replace hM := (hM.firstN 1).ownNil 3 1
   replace hM := hM.front (k := 1) rfl
   rw [hTd]
   exact ⟨none, 0, rfl, hM⟩
  ·
   have hz2 := Decidable.not_not.1 hc2
   refine Ends.skip (Ends.seq (Ends.region ?_))
   refine S.val hA (R.move rfl) rfl ?_; clear hA a; intro a hA
   refine S.val hA (R.move rfl) rfl ?_; clear hA a; intro a hA
   refine S.buildSl (cells := #[.int .i64 ((nmE s ((cNb s n p k).2.1) 999).1)]) hA hM Tryd.underlying22 info3 rfl rfl rfl rfl (by kernel_rfl) rfl ?_; clear hA hM a; intro b3 w3 hb4 hM a hA
   replace hM : Mem _ _ [pt b3 #[.int .i64 ((nmE s ((cNb s n p k).2.1) 999).1)] 3, pt rb #[.string s, .int .i64 ((((nmE s ((cNb s n p k).2.1) 999).2.1 : Nat) : Int))] 51, own 3 1 (.slice oa (((cNb s n p k).1).length) oc) (((cNb s n p k).1).length) (((cNb s n p k).1).map (Value.int .i64))] _ := hM
   refine S.append (k := 2) (k2 := 0) hA hM rfl rfl Tryd.underlying22 info3 rfl rfl rfl rfl rfl rfl rfl rfl rfl (by first | (unfold maxLen; omega) | (show (_ + 1) * 8 ≤ (140737488355328 : Nat); omega) | omega) (by first | (unfold maxLen; omega) | (show (_ + 1) * 8 ≤ (140737488355328 : Nat); omega) | omega) rfl ?_; clear hA hM a; intro a5 c6 w4 hM a hA
   replace hM : Mem _ _ [pt b3 #[.int .i64 ((nmE s ((cNb s n p k).2.1) 999).1)] 3, pt rb #[.string s, .int .i64 ((((nmE s ((cNb s n p k).2.1) 999).2.1 : Nat) : Int))] 51, own 3 1 (.slice a5 ((((cNb s n p k).1).length) + 1) c6) ((((cNb s n p k).1).length) + 1) (((cNb s n p k).1).map (Value.int .i64) ++ [.int .i64 ((nmE s ((cNb s n p k).2.1) 999).1)])] _ := hM
   have hl7 : (((cNb s n p k).1).length) + 1 = ((cNb s n p k).1 ++ [(nmE s ((cNb s n p k).2.1) 999).1]).length := by simp
   rw [hl7, show ((cNb s n p k).1).map (Value.int .i64) ++ [.int .i64 ((nmE s ((cNb s n p k).2.1) 999).1)] = ((cNb s n p k).1 ++ [(nmE s ((cNb s n p k).2.1) 999).1]).map (Value.int .i64) by simp] at hM; rw [hl7] at hA
   clear hl7
   replace hM := hM.drop 0
   replace hM : Mem _ _ [pt rb #[.string s, .int .i64 ((((nmE s ((cNb s n p k).2.1) 999).2.1 : Nat) : Int))] 51, own 3 1 (.slice a5 ((((cNb s n p k).1 ++ [(nmE s ((cNb s n p k).2.1) 999).1])).length) c6) ((((cNb s n p k).1 ++ [(nmE s ((cNb s n p k).2.1) 999).1])).length) ((((cNb s n p k).1 ++ [(nmE s ((cNb s n p k).2.1) 999).1])).map (Value.int .i64))] _ := hM
   refine S.val hA (R.assign rfl) rfl ?_; clear hA a; intro a hA
   refine S.done ?_
   replace hA : St 40 [(0, _), (1, _), (6, _), (7, _), (12, _), (13, _)] a := hA.sub ((.cons rfl (.cons rfl (.cons rfl (.cons rfl (.cons rfl (.cons rfl .nil)))))))
   refine Ends.seq (Ends.region ?_)
   refine S.val hA (R.assign rfl) rfl ?_; clear hA a; intro a hA
   refine S.done ?_
   refine Ends.seq (Ends.seq (Ends.region ?_))
   refine S.val hA (R.move rfl) rfl ?_; clear hA a; intro a hA
   refine S.val hA (R.move rfl) rfl ?_; clear hA a; intro a hA
   refine S.val hA (R.subI rfl rfl (r := ((n : Int)) - 1) rfl (by omega)) rfl ?_; clear hA a; intro a hA
   refine S.val hA (R.eql rfl rfl) rfl ?_; clear hA a; intro a hA
   refine S.done ?_
   replace hA : St 40 [(0, _), (1, _), (6, _), (10, _), (12, _), (13, _), (31, _)] a := hA.sub ((.cons rfl (.cons rfl (.cons rfl (.cons rfl (.cons rfl (.cons rfl (.cons rfl .nil))))))))
   refine Ends.ite hA rfl (fun hc8 => ?_) (fun hc8 => ?_)
   ·
    have hbh : bhd n k = 10 := by unfold bhd; rw [if_pos (by omega)]
    refine Ends.region ?_
    refine S.val hA (R.assign rfl) rfl ?_; clear hA a; intro a hA
    refine S.done ?_
    refine Ends.seq (Ends.region ?_)
    refine S.val hA (R.move rfl) rfl ?_; clear hA a; intro a hA
    refine S.val hA (R.move rfl) rfl ?_; clear hA a; intro a hA
    refine S.call hA (R.callF Tryd.func32 rfl rfl rfl) rfl (signs30 s rb (nmE s (cNb s n p k).2.1 999).2.1 (by omega) hs ⟨#[10]⟩ [10] (by decide) (by decide) (by decide) _ (hM.hereN 1)) ?_; clear hA a
    rintro e w5 ⟨rfl, hn⟩
    replace hM : Mem _ _ [pt rb #[.string s, .int .i64 ((((sgW s [10] (nmE s (cNb s n p k).2.1 999).2.1).1 : Nat) : Int))] 51, own 3 1 (.slice a5 ((((cNb s n p k).1 ++ [(nmE s ((cNb s n p k).2.1) 999).1])).length) c6) ((((cNb s n p k).1 ++ [(nmE s ((cNb s n p k).2.1) 999).1])).length) ((((cNb s n p k).1 ++ [(nmE s ((cNb s n p k).2.1) 999).1])).map (Value.int .i64))] _ := hM.callL 1 hn; clear hn
    refine ⟨.int .i64 ((sgW s [10] (nmE s (cNb s n p k).2.1 999).2.1).2), rfl, fun a hA => ?_⟩
    refine S.val hA (R.assign rfl) rfl ?_; clear hA a; intro a hA
    refine S.done ?_
    replace hA : St 40 [(0, _), (1, _), (6, _), (11, _), (12, _), (13, _)] a := hA.sub ((.cons rfl (.cons rfl (.cons rfl (.cons rfl (.cons rfl (.cons rfl .nil)))))))
    refine Ends.seq (Ends.region ?_)
    refine S.val hA (R.move rfl) rfl ?_; clear hA a; intro a hA
    refine S.val hA (R.neq rfl rfl) rfl ?_; clear hA a; intro a hA
    refine S.done ?_
    refine Ends.ite hA rfl (fun hc9 => ?_) (fun hc9 => ?_)
    ·
     have hs3 : sgE s (nmE s (cNb s n p k).2.1 999).2.1 (bhd n k) ≠ 0 := by rw [hbh, ← sg1_e]; exact hc9
     have hT : (cNb s n p (k + 1)) = ([], (nmE s (cNb s n p k).2.1 999).2.1, sgE s (nmE s (cNb s n p k).2.1 999).2.1 (bhd n k)) := by rw [cNb, if_neg (not_not_intro hz), if_neg (not_not_intro hz2), if_pos hs3]
     have hTd := cNb_stuck (s := s) (n := n) (p := p) (k := k + 1) (by rw [hT]; exact hs3) (n - (k + 1))
     rw [show k + 1 + (n - (k + 1)) = n by omega, hT] at hTd
     rw [hbh] at hTd hs3
     rw [sg1_no hs3] at hM hA
     refine Ends.seq (Ends.region ?_)
     refine S.val hA (R.move rfl) rfl ?_; clear hA a; intro a hA
     refine S.val hA (R.assign rfl) rfl ?_; clear hA a; intro a hA
     refine S.val hA (R.assign rfl) rfl ?_; clear hA a; intro a hA
     refine S.done ?_
     replace hA : St 40 [(0, _), (1, _), (4, _), (5, _), (6, _), (12, _), (13, _)] a := hA.sub ((.cons rfl (.cons rfl (.cons rfl (.cons rfl (.cons rfl (.cons rfl (.cons rfl .nil))))))))
     refine Ends.ret2 Tryd.func22 Tryd.results22 hA rfl rfl ?_
     replace hM := (hM.firstN 1).ownNil 3 1
     replace hM := hM.front (k := 1) rfl
     rw [hTd]
     exact ⟨none, 0, rfl, hM⟩
    ·
     have hs3 : sgE s (nmE s (cNb s n p k).2.1 999).2.1 (bhd n k) = 0 := by rw [hbh, ← sg1_e]; exact Decidable.not_not.1 hc9
     have hT : (cNb s n p (k + 1)) = ((cNb s n p k).1 ++ [(nmE s (cNb s n p k).2.1 999).1], (nmE s (cNb s n p k).2.1 999).2.1 + 1, 0) := by rw [cNb, if_neg (not_not_intro hz), if_neg (not_not_intro hz2), if_neg (not_not_intro hs3)]
     have hq3 := sgE_lt hs3
     rw [hbh] at hs3
     rw [sg1_ok hs3] at hM
     refine Ends.skip (Ends.inBlock ?_)
     have hX9 : ((cNb s n p k).1 ++ [(nmE s ((cNb s n p k).2.1) 999).1]) = (cNb s n p (k + 1)).1 := by rw [hT]
     have hP9 : (nmE s (cNb s n p k).2.1 999).2.1 + 1 = (cNb s n p (k + 1)).2.1 := by rw [hT]
     rw [hX9] at hM hA
     simp only at hM
     rw [hP9] at hM
     replace hM : Mem _ _ [pt rb #[.string s, .int .i64 ((((cNb s n p (k + 1)).2.1 : Nat) : Int))] 51, own 3 1 (.slice a5 (((cNb s n p (k + 1)).1).length) c6) (((cNb s n p (k + 1)).1).length) (((cNb s n p (k + 1)).1).map (Value.int .i64))] _ := hM
     refine Ends.region ?_
     refine S.val hA (R.addI rfl rfl (r := ((k : Int)) + 1) rfl (by omega)) rfl ?_; clear hA a; intro a hA
     refine S.val hA (R.move rfl) rfl ?_; clear hA a; intro a hA
     refine S.done ?_
     replace hA : St 40 [(0, _), (1, _), (6, _), (12, _), (13, _)] a := hA.sub ((.cons rfl (.cons rfl (.cons rfl (.cons rfl (.cons rfl .nil))))))
     replace hM := hM.front (k := 1) rfl
     replace hM := hM.front (k := 1) rfl
     replace hM := hM.firstN 2
     replace hM : Mem _ _ [pt rb #[.string s, .int .i64 ((((cNb s n p (k + 1)).2.1 : Nat) : Int))] 51, own 3 1 (.slice a5 (((cNb s n p (k + 1)).1).length) c6) (((cNb s n p (k + 1)).1).length) (((cNb s n p (k + 1)).1).map (Value.int .i64))] _ := hM
     exact hNext ((k + 1, a5, c6)) _ _ ((by show n - (k + 1) < n - k; omega)) ⟨hA.sub ((.cons rfl (.cons rfl (.cons rfl (.cons rfl (.cons rfl .nil)))))), hM, (by omega), (by rw [hT]), (by rw [hT]; simp only; omega)⟩
   ·
    have hbh : bhd n k = 32 := by unfold bhd; rw [if_neg (by omega)]
    refine Ends.skip (Ends.seq (Ends.region ?_))
    refine S.val hA (R.move rfl) rfl ?_; clear hA a; intro a hA
    refine S.val hA (R.move rfl) rfl ?_; clear hA a; intro a hA
    refine S.call hA (R.callF Tryd.func32 rfl rfl rfl) rfl (signs30 s rb (nmE s (cNb s n p k).2.1 999).2.1 (by omega) hs ⟨#[32]⟩ [32] (by decide) (by decide) (by decide) _ (hM.hereN 1)) ?_; clear hA a
    rintro e w6 ⟨rfl, hn⟩
    replace hM : Mem _ _ [pt rb #[.string s, .int .i64 ((((sgW s [32] (nmE s (cNb s n p k).2.1 999).2.1).1 : Nat) : Int))] 51, own 3 1 (.slice a5 ((((cNb s n p k).1 ++ [(nmE s ((cNb s n p k).2.1) 999).1])).length) c6) ((((cNb s n p k).1 ++ [(nmE s ((cNb s n p k).2.1) 999).1])).length) ((((cNb s n p k).1 ++ [(nmE s ((cNb s n p k).2.1) 999).1])).map (Value.int .i64))] _ := hM.callL 1 hn; clear hn
    refine ⟨.int .i64 ((sgW s [32] (nmE s (cNb s n p k).2.1 999).2.1).2), rfl, fun a hA => ?_⟩
    refine S.val hA (R.assign rfl) rfl ?_; clear hA a; intro a hA
    refine S.done ?_
    replace hA : St 40 [(0, _), (1, _), (6, _), (11, _), (12, _), (13, _)] a := hA.sub ((.cons rfl (.cons rfl (.cons rfl (.cons rfl (.cons rfl (.cons rfl .nil)))))))
    refine Ends.seq (Ends.region ?_)
    refine S.val hA (R.move rfl) rfl ?_; clear hA a; intro a hA
    refine S.val hA (R.neq rfl rfl) rfl ?_; clear hA a; intro a hA
    refine S.done ?_
    refine Ends.ite hA rfl (fun hc10 => ?_) (fun hc10 => ?_)
    ·
     have hs3 : sgE s (nmE s (cNb s n p k).2.1 999).2.1 (bhd n k) ≠ 0 := by rw [hbh, ← sg1_e]; exact hc10
     have hT : (cNb s n p (k + 1)) = ([], (nmE s (cNb s n p k).2.1 999).2.1, sgE s (nmE s (cNb s n p k).2.1 999).2.1 (bhd n k)) := by rw [cNb, if_neg (not_not_intro hz), if_neg (not_not_intro hz2), if_pos hs3]
     have hTd := cNb_stuck (s := s) (n := n) (p := p) (k := k + 1) (by rw [hT]; exact hs3) (n - (k + 1))
     rw [show k + 1 + (n - (k + 1)) = n by omega, hT] at hTd
     rw [hbh] at hTd hs3
     rw [sg1_no hs3] at hM hA
     refine Ends.seq (Ends.region ?_)
     refine S.val hA (R.move rfl) rfl ?_; clear hA a; intro a hA
     refine S.val hA (R.assign rfl) rfl ?_; clear hA a; intro a hA
     refine S.val hA (R.assign rfl) rfl ?_; clear hA a; intro a hA
     refine S.done ?_
     replace hA : St 40 [(0, _), (1, _), (4, _), (5, _), (6, _), (12, _), (13, _)] a := hA.sub ((.cons rfl (.cons rfl (.cons rfl (.cons rfl (.cons rfl (.cons rfl (.cons rfl .nil))))))))
     refine Ends.ret2 Tryd.func22 Tryd.results22 hA rfl rfl ?_
     replace hM := (hM.firstN 1).ownNil 3 1
     replace hM := hM.front (k := 1) rfl
     rw [hTd]
     exact ⟨none, 0, rfl, hM⟩
    ·
     have hs3 : sgE s (nmE s (cNb s n p k).2.1 999).2.1 (bhd n k) = 0 := by rw [hbh, ← sg1_e]; exact Decidable.not_not.1 hc10
     have hT : (cNb s n p (k + 1)) = ((cNb s n p k).1 ++ [(nmE s (cNb s n p k).2.1 999).1], (nmE s (cNb s n p k).2.1 999).2.1 + 1, 0) := by rw [cNb, if_neg (not_not_intro hz), if_neg (not_not_intro hz2), if_neg (not_not_intro hs3)]
     have hq3 := sgE_lt hs3
     rw [hbh] at hs3
     rw [sg1_ok hs3] at hM
     refine Ends.skip (Ends.inBlock ?_)
     have hX9 : ((cNb s n p k).1 ++ [(nmE s ((cNb s n p k).2.1) 999).1]) = (cNb s n p (k + 1)).1 := by rw [hT]
     have hP9 : (nmE s (cNb s n p k).2.1 999).2.1 + 1 = (cNb s n p (k + 1)).2.1 := by rw [hT]
     rw [hX9] at hM hA
     simp only at hM
     rw [hP9] at hM
     replace hM : Mem _ _ [pt rb #[.string s, .int .i64 ((((cNb s n p (k + 1)).2.1 : Nat) : Int))] 51, own 3 1 (.slice a5 (((cNb s n p (k + 1)).1).length) c6) (((cNb s n p (k + 1)).1).length) (((cNb s n p (k + 1)).1).map (Value.int .i64))] _ := hM
     refine Ends.region ?_
     refine S.val hA (R.addI rfl rfl (r := ((k : Int)) + 1) rfl (by omega)) rfl ?_; clear hA a; intro a hA
     refine S.val hA (R.move rfl) rfl ?_; clear hA a; intro a hA
     refine S.done ?_
     replace hA : St 40 [(0, _), (1, _), (6, _), (12, _), (13, _)] a := hA.sub ((.cons rfl (.cons rfl (.cons rfl (.cons rfl (.cons rfl .nil))))))
     replace hM := hM.front (k := 1) rfl
     replace hM := hM.front (k := 1) rfl
     replace hM := hM.firstN 2
     replace hM : Mem _ _ [pt rb #[.string s, .int .i64 ((((cNb s n p (k + 1)).2.1 : Nat) : Int))] 51, own 3 1 (.slice a5 (((cNb s n p (k + 1)).1).length) c6) (((cNb s n p (k + 1)).1).length) (((cNb s n p (k + 1)).1).map (Value.int .i64))] _ := hM
     exact hNext ((k + 1, a5, c6)) _ _ ((by show n - (k + 1) < n - k; omega)) ⟨hA.sub ((.cons rfl (.cons rfl (.cons rfl (.cons rfl (.cons rfl .nil)))))), hM, (by omega), (by rw [hT]), (by rw [hT]; simp only; omega)⟩
 ·
  have hke : k = n := by omega
  refine Ends.exit rfl ?_
  replace hA : St 40 [(6, _)] a := hA.sub ((.cons rfl .nil))
  refine Ends.seq (Ends.region ?_)
  refine S.val hA (R.move rfl) rfl ?_; clear hA a; intro a hA
  refine S.val hA (R.assign rfl) rfl ?_; clear hA a; intro a hA
  refine S.val hA (R.assign rfl) rfl ?_; clear hA a; intro a hA
  refine S.done ?_
  refine Ends.ret2 Tryd.func22 Tryd.results22 hA rfl rfl ?_
  replace hM := hM.front (k := 1) rfl
  replace hM := hM.front (k := 1) rfl
  replace hM := hM.firstN 2
  rw [hke] at hM hz ⊢
  rw [hz]
  exact ⟨_, _, rfl, hM⟩
set_option maxRecDepth 100000 in
set_option maxHeartbeats 400000 in
theorem tree30 (s : ByteArray) (rb p : Nat) (hp : p ≤ s.size) (hs : s.size ≤ 4611686018427387904) (w : World) (hM : Mem w (feet [pt rb #[.string s, .int .i64 ((p : Int))] 51]) [pt rb #[.string s, .int .i64 ((p : Int))] 51] w) :
  Calls Tryd.prog 23 #[.pointer (some ⟨rb, 0, none⟩)] w fun e w' => ∃ u, e = .returned (.tuple #[.string u, .int .i64 (cTr s p).2]) ∧ ((cTr s p).2 = 0 → u = s.extract p (p + cLt s p)) ∧ Mem w (feet [pt rb #[.string s, .int .i64 ((p : Int))] 51]) [pt rb #[.string s, .int .i64 ((((cTr s p).1 : Nat) : Int))] 51] w' := by
 have hbs := Below.refl (B := w.heap.size) w
 have hrs : (s.extract p s.size).size = s.size - p := size_ext (Nat.le_refl _)
 refine Calls.of_ends (vs := [.pointer (some ⟨rb, 0, none⟩)]) Tryd.func23 rfl Tryd.ntmps23 rfl ?_
 intro a hA
 replace hA : St 65 [(0, _)] a := hA
 refine Ends.seq (Ends.region ?_)
 refine S.val hA (R.assign rfl) rfl ?_; clear hA a; intro a hA
 refine S.val hA (R.assign rfl) rfl ?_; clear hA a; intro a hA
 refine S.done ?_
 refine Ends.seq ?_
 refine Ends.drawn (Mem w (feet [pt rb #[.string s, .int .i64 ((p : Int))] 51]) [pt rb #[.string s, .int .i64 ((p : Int))] 51]) (.cons (0, true) (.cons (1, true) (.cons (2, true) (.cons (3, true) (.cons (4, true) (.cons (5, true) (.cons (6, true) (.cons (7, true) (.cons (8, true) (.cons (9, true) .nil)))))))))) 10 mixed (by kernel_rfl) (by kernel_rfl) (by kernel_rfl) hM.drew ?_
 replace hM := hM.drew
 refine D.valF hA rfl (fun _ => R.move rfl) rfl ?_; clear hA a; intro a hA
 refine D.valF hA rfl (fun _ => R.nilCheck rfl) rfl ?_; clear hA a; intro a hA
 refine D.valF hA rfl (fun _ => R.fieldAddr (q := 0) fi51_0 rfl rfl rfl) rfl ?_; clear hA a; intro a hA
 refine D.val hA rfl (by kernel_rfl) (fun _ hM => R.load sz9 rfl (hM.cell (k := 0) rfl rfl)) rfl ?_; clear hA a; intro a hA
 refine D.valF hA rfl (fun _ => R.move rfl) rfl ?_; clear hA a; intro a hA
 refine D.valF hA rfl (fun _ => R.nilCheck rfl) rfl ?_; clear hA a; intro a hA
 refine D.valF hA rfl (fun _ => R.fieldAddr (q := 1) fi51_1 rfl rfl rfl) rfl ?_; clear hA a; intro a hA
 refine D.val hA rfl (by kernel_rfl) (fun _ hM => R.load sz3 rfl (hM.cell (k := 0) rfl rfl)) rfl ?_; clear hA a; intro a hA
 refine D.valF hA rfl (fun _ => R.to (v := .string ((s.extract p s.size))) (R.sliceSL Tryd.underlying9 rfl rfl (by first | omega | (rw [hrs]; omega))) (by first | rfl | (congr 2; done) | (congr 2 <;> omega))) rfl ?_; clear hA a; intro a hA
 refine D.valF hA rfl (fun _ => R.assign rfl) rfl ?_; clear hA a; intro a hA
 refine D.done ?_
 replace hA : St 65 [(0, _), (4, _)] a := hA.sub ((.cons rfl (.cons rfl .nil)))
 refine Ends.seq (Ends.region ?_)
 refine S.val hA (R.move rfl) rfl ?_; clear hA a; intro a hA
 refine S.val hA (R.lenStr Tryd.underlying9 rfl rfl) rfl ?_; clear hA a; intro a hA
 refine S.val hA (R.assign rfl) rfl ?_; clear hA a; intro a hA
 refine S.done ?_
 refine Ends.seq (Ends.seq (Ends.region ?_))
 refine S.val hA (R.move rfl) rfl ?_; clear hA a; intro a hA
 refine S.rangeS hA hM Tryd.underlying9 rfl rfl ?_; clear hA hM a; intro b1 w1 hb2 hM a hA
 replace hM : Mem _ _ [itC b1 ((s.extract p s.size)) 0, pt rb #[.string s, .int .i64 ((p : Int))] 51] _ := hM
 refine S.done ?_
 refine Ends.block ?_
 refine Ends.loop (σ := Nat) (fun j (a : Act) (wv : World) => St 65 [(0, .pointer (some ⟨rb, 0, none⟩)), (4, .string ((s.extract p s.size))), (5, .int .i64 (((s.extract p s.size).size : Int))), (20, .pointer (some ⟨b1, 0, none⟩))] a ∧ Mem w (feet [pt rb #[.string s, .int .i64 ((p : Int))] 51]) [itC b1 ((s.extract p s.size)) j, pt rb #[.string s, .int .i64 ((p : Int))] 51] wv ∧ (p + j ≤ s.size) ∧ (∀ i, i < j → isTb s (p + i) = true)) (fun j => s.size - (p + j)) 0 ⟨hA.sub ((.cons rfl (.cons rfl (.cons rfl (.cons rfl .nil))))), hM, (by omega), (fun i hi => absurd hi (Nat.not_lt_zero i))⟩ ?_
 clear hA hM a
 rintro j a w2 ⟨hA, hM, hj, hd⟩ hNext
 refine Ends.seq (Ends.region ?_)
 by_cases hp3 : j < ((s.extract p s.size)).size
 ·
  refine S.nextT (k := 0) hA hM rfl rfl hp3 rfl ?_; clear hA hM a; intro w3 hM a hA
  replace hM : Mem _ _ [itC b1 ((s.extract p s.size)) ((j + (Utf8.decode ((s.extract p s.size)) j).2)), pt rb #[.string s, .int .i64 ((p : Int))] 51] _ := hM
  refine S.val hA (R.extract (v := .bool true) rfl rfl) rfl ?_; clear hA a; intro a hA
  refine S.done ?_
  refine Ends.seq ?_
  refine Ends.condT hA rfl ?_
  refine Ends.skip (Ends.block (Ends.seq (Ends.region ?_)))
  refine S.val hA (R.extract (v := .int .i64 ((j : Int))) rfl rfl) rfl ?_; clear hA a; intro a hA
  refine S.val hA (R.extract (v := .int .i32 (((Utf8.decode ((s.extract p s.size)) j).1 : Int))) rfl rfl) rfl ?_; clear hA a; intro a hA
  refine S.val hA (R.assign rfl) rfl ?_; clear hA a; intro a hA
  refine S.val hA (R.assign rfl) rfl ?_; clear hA a; intro a hA
  refine S.done ?_
  replace hA : St 65 [(0, _), (4, _), (5, _), (6, _), (7, _), (20, _)] a := hA.sub ((.cons rfl (.cons rfl (.cons rfl (.cons rfl (.cons rfl (.cons rfl .nil)))))))
  refine Ends.seq (Ends.region ?_)
  refine S.val hA (R.move rfl) rfl ?_; clear hA a; intro a hA
  refine S.call hA (R.callF Tryd.func27 rfl rfl rfl) rfl (letter30 (((Utf8.decode ((s.extract p s.size)) j).1 : Int)) _) ?_; clear hA a
  rintro e w4 ⟨rfl, hb⟩
  replace hM := hM.callB hb; clear hb
  refine ⟨.bool (decide (isT (((Utf8.decode ((s.extract p s.size)) j).1 : Int)))), rfl, fun a hA => ?_⟩
  refine S.val hA (R.notD rfl) rfl ?_; clear hA a; intro a hA
  refine S.done ?_
  refine Ends.ite hA rfl (fun hc4 => ?_) (fun hc4 => ?_)
  ·
   have hlt9 : p + j < s.size := by have h9 := hp3; rw [hrs] at h9; omega
   have hno9 : ¬ isT (byt s (p + j)) := fun h8 => hc4 ((dec_let hp3).1.2 (by rw [byt_ext (by omega) (Nat.le_refl _)]; exact h8))
   have hy : cLt s p = j := cLt_uniq hd (decide_eq_false fun h8 => hno9 h8.2)
   refine Ends.seq (Ends.region ?_)
   refine S.val hA (R.move rfl) rfl ?_; clear hA a; intro a hA
   refine S.val hA (R.assign rfl) rfl ?_; clear hA a; intro a hA
   refine S.done ?_
   replace hA : St 65 [(0, _), (4, _), (5, _), (20, _)] a := hA.sub ((.cons rfl (.cons rfl (.cons rfl (.cons rfl .nil)))))
   refine Ends.exit rfl ?_
   refine Ends.seq (Ends.seq ?_)
   replace hM := hM.front (k := 1) rfl
   replace hM := hM.firstN 1
   replace hM : Mem _ _ [pt rb #[.string s, .int .i64 ((p : Int))] 51] _ := hM
   refine Ends.region ?_
   refine S.val hA (R.move rfl) rfl ?_; clear hA a; intro a hA
   refine S.val hA (R.gtr rfl rfl) rfl ?_; clear hA a; intro a hA
   refine S.done ?_
   refine Ends.ite hA rfl (fun hc5 => ?_) (fun hc5 => ?_)
   ·
    have hT : cTr s p = (p + 1048576, 5) := if_pos (by rw [hy]; omega)
    refine Ends.seq (Ends.region ?_)
    refine S.val hA (R.move rfl) rfl ?_; clear hA a; intro a hA
    refine S.val hA (R.nilCheck rfl) rfl ?_; clear hA a; intro a hA
    refine S.val hA (R.fieldAddr (q := 1) fi51_1 rfl rfl rfl) rfl ?_; clear hA a; intro a hA
    refine S.val hA (R.load sz3 rfl (hM.cell (k := 0) rfl rfl)) rfl ?_; clear hA a; intro a hA
    refine S.val hA (R.addI rfl rfl (r := ((p : Int)) + 1048576) rfl (by first | omega | (rw [hrs]; omega))) rfl ?_; clear hA a; intro a hA
    refine S.val hA (R.nilCheck rfl) rfl ?_; clear hA a; intro a hA
    refine S.val hA (R.fieldAddr (q := 1) fi51_1 rfl rfl rfl) rfl ?_; clear hA a; intro a hA
    refine S.store (k := 0) hA hM sz3 rfl rfl rfl rfl rfl ?_; clear hM
    intro w5 hM
    replace hM : Mem _ _ [pt rb #[.string s, .int .i64 (((p : Int)) + 1048576)] 51] _ := hM
    refine S.done ?_
    replace hA : St 65 [(0, _), (4, _), (5, _)] a := hA.sub ((.cons rfl (.cons rfl (.cons rfl .nil))))
    refine Ends.seq (Ends.region ?_)
    refine S.val hA (R.assign rfl) rfl ?_; clear hA a; intro a hA
    refine S.val hA (R.assign rfl) rfl ?_; clear hA a; intro a hA
    refine S.done ?_
    refine Ends.ret2 Tryd.func23 Tryd.results23 hA rfl rfl ?_
    replace hM := hM.firstN 1
    replace hM : Mem _ _ [pt rb #[.string s, .int .i64 (((p : Int)) + 1048576)] 51] _ := hM
    replace hM := hM.firstN 1
    replace hM : Mem _ _ [pt rb #[.string s, .int .i64 (((p : Int)) + 1048576)] 51] _ := hM
    rw [show (p : Int) + 1048576 = ((p + 1048576 : Nat) : Int) by omega] at hM
    rw [hT]
    exact ⟨_, rfl, fun h9 => absurd (show (5 : Int) = 0 from h9) (by decide), hM⟩
   ·
    have hy1 : ¬ 1048576 < cLt s p := by rw [hy]; omega
    refine Ends.skip (Ends.seq (Ends.region ?_))
    refine S.val hA (R.move rfl) rfl ?_; clear hA a; intro a hA
    refine S.val hA (R.nilCheck rfl) rfl ?_; clear hA a; intro a hA
    refine S.val hA (R.fieldAddr (q := 1) fi51_1 rfl rfl rfl) rfl ?_; clear hA a; intro a hA
    refine S.val hA (R.load sz3 rfl (hM.cell (k := 0) rfl rfl)) rfl ?_; clear hA a; intro a hA
    refine S.val hA (R.move rfl) rfl ?_; clear hA a; intro a hA
    refine S.val hA (R.addI rfl rfl (r := ((p + j : Nat) : Int)) (by first | omega | (rw [hrs]; omega)) (by first | omega | (rw [hrs]; omega))) rfl ?_; clear hA a; intro a hA
    refine S.val hA (R.nilCheck rfl) rfl ?_; clear hA a; intro a hA
    refine S.val hA (R.fieldAddr (q := 1) fi51_1 rfl rfl rfl) rfl ?_; clear hA a; intro a hA
    refine S.store (k := 0) hA hM sz3 rfl rfl rfl rfl rfl ?_; clear hM
    intro w6 hM
    replace hM : Mem _ _ [pt rb #[.string s, .int .i64 (((p + j : Nat) : Int))] 51] _ := hM
    refine S.done ?_
    replace hA : St 65 [(0, _), (4, _), (5, _)] a := hA.sub ((.cons rfl (.cons rfl (.cons rfl .nil))))
    refine Ends.seq (Ends.seq ?_)
    refine Ends.cut (fun (a : Act) (wv : World) => St 65 [(0, .pointer (some ⟨rb, 0, none⟩)), (4, .string ((s.extract p s.size))), (5, .int .i64 ((j : Int))), (59, .bool (decide ((((j : Int)) = 0 ∧ (((p + j : Nat) : Int)) < ((s.size : Int))))))] a ∧ Mem w (feet [pt rb #[.string s, .int .i64 ((p : Int))] 51]) [pt rb #[.string s, .int .i64 (((p + j : Nat) : Int))] 51] wv) ?_ (fun k2 hJ => ?_)
    ·
     clear hA hM a; rintro a w7 ⟨hA, hM⟩
     refine Ends.ite hA rfl (fun hc6 => ?_) (fun hc6 => ?_)
     ·
      have hT : cTr s p = (p, 2) := by unfold cTr; rw [if_neg hy1, if_pos ⟨by rw [hy]; omega, by omega⟩]
      refine Ends.seq (Ends.region ?_)
      refine S.val hA (R.assign rfl) rfl ?_; clear hA a; intro a hA
      refine S.val hA (R.assign rfl) rfl ?_; clear hA a; intro a hA
      refine S.done ?_
      refine Ends.ret2 Tryd.func23 Tryd.results23 hA rfl rfl ?_
      replace hM := hM.firstN 1
      replace hM : Mem _ _ [pt rb #[.string s, .int .i64 (((p + j : Nat) : Int))] 51] _ := hM
      replace hM := hM.firstN 1
      replace hM : Mem _ _ [pt rb #[.string s, .int .i64 (((p + j : Nat) : Int))] 51] _ := hM
      rw [show ((p + j : Nat) : Int) = (p : Int) by omega] at hM
      rw [hT]
      exact ⟨_, rfl, fun h9 => absurd (show (2 : Int) = 0 from h9) (by decide), hM⟩
     ·
      have hy2 : ¬ (cLt s p = 0 ∧ p < s.size) := by rw [hy]; intro h9; have h8 := hc6; omega
      refine Ends.skip (Ends.seq ?_)
      refine Ends.drawn (fun _ => True) (.cons (0, true) (.cons (1, true) (.cons (2, true) (.cons (3, true) (.cons (4, false) (.cons (5, true) (.cons (6, true) .nil))))))) 7 mixed (by kernel_rfl) (by kernel_rfl) (by kernel_rfl) trivial ?_
      replace hM := hM.drew
      refine D.valF hA rfl (fun _ => R.move rfl) rfl ?_; clear hA a; intro a hA
      refine D.valF hA rfl (fun _ => R.move rfl) rfl ?_; clear hA a; intro a hA
      refine D.valF hA rfl (fun _ => R.to (v := .string ((((s.extract p s.size)).extract 0 j))) (R.sliceSH Tryd.underlying9 rfl rfl (by first | omega | (rw [hrs]; omega))) (by first | rfl | (congr 2; done) | (congr 2 <;> omega))) rfl ?_; clear hA a; intro a hA
      refine D.valF hA rfl (fun _ => R.move rfl) rfl ?_; clear hA a; intro a hA
      refine D.call hA rfl (R.callF Tryd.func32 rfl rfl rfl) rfl (signs30 s rb (p + j) (by omega) hs ⟨#[10]⟩ [10] (by decide) (by decide) (by decide) _ (hM.hereN 1)) ?_; clear hA a
      rintro e w8 ⟨rfl, hn⟩
      replace hM : Mem _ _ [pt rb #[.string s, .int .i64 ((((sgW s [10] (p + j)).1 : Nat) : Int))] 51] _ := hM.callL 1 hn; clear hn
      refine ⟨.int .i64 ((sgW s [10] (p + j)).2), rfl, trivial, fun a hA => ?_⟩
      refine D.valF hA rfl (fun _ => R.assign rfl) rfl ?_; clear hA a; intro a hA
      refine D.valF hA rfl (fun _ => R.assign rfl) rfl ?_; clear hA a; intro a hA
      refine D.done ?_
      replace hA : St 65 [(2, _), (3, _)] a := hA.sub ((.cons rfl (.cons rfl .nil)))
      refine Ends.ret2 Tryd.func23 Tryd.results23 hA rfl rfl ?_
      replace hM := hM.firstN 1
      replace hM : Mem _ _ [pt rb #[.string s, .int .i64 ((((sgW s [10] (p + j)).1 : Nat) : Int))] 51] _ := hM
      have hT : cTr s p = sgW s [10] (p + j) := by
       unfold cTr
       rw [if_neg hy1, if_neg hy2, hy]
       split
       · rename_i e; rw [sg1_no e]
       · rename_i e; rw [sg1_ok (Decidable.not_not.1 e)]
      rw [hT]
      have hex : (s.extract p s.size).extract 0 j = s.extract p (p + j) := ba_ext (by rw [size_ext (by omega), size_ext (by omega)]; omega) fun i hi => by
       rw [size_ext (by omega)] at hi
       rw [byt_ext (by omega) (by omega), byt_ext (by omega) (Nat.le_refl _), byt_ext (x := p) (y := p + j) (by omega) (by omega), Nat.zero_add]
      exact ⟨_, rfl, fun _ => by rw [hy]; exact hex, hM⟩
    ·
     refine Ends.drawn (Mem w (feet [pt rb #[.string s, .int .i64 ((p : Int))] 51]) [pt rb #[.string s, .int .i64 (((p + j : Nat) : Int))] 51]) (.cons (0, true) (.cons (1, true) (.cons (2, true) (.cons (3, true) (.cons (4, true) (.cons (5, true) (.cons (6, true) (.cons (7, true) (.cons (8, true) (.cons (9, true) (.cons (10, true) (.cons (11, true) (.cons (12, true) (.cons (13, true) .nil)))))))))))))) 14 mixed (by kernel_rfl) (by kernel_rfl) (by kernel_rfl) hM.drew ?_
     replace hM := hM.drew
     refine D.valF hA rfl (fun _ => R.move rfl) rfl ?_; clear hA a; intro a hA
     refine D.valF hA rfl (fun _ => R.eql rfl rfl) rfl ?_; clear hA a; intro a hA
     refine D.valF hA rfl (fun _ => R.move rfl) rfl ?_; clear hA a; intro a hA
     refine hA.split (d := 48) rfl ?_ ?_
     ·
      clear hA; intro hg7 hA
      refine D.valgF (dj := 48) hA rfl (by kernel_rfl) rfl (fun _ => R.move rfl) rfl ?_; clear hA a; intro a hA
      refine D.valgF (dj := 48) hA rfl (by kernel_rfl) rfl (fun _ => R.nilCheck rfl) rfl ?_; clear hA a; intro a hA
      refine D.valgF (dj := 48) hA rfl (by kernel_rfl) rfl (fun _ => R.fieldAddr (q := 1) fi51_1 rfl rfl rfl) rfl ?_; clear hA a; intro a hA
      refine D.valg (dj := 48) hA rfl (by kernel_rfl) (by kernel_rfl) rfl (fun _ hM => R.load sz3 rfl (hM.cell (k := 0) rfl rfl)) rfl ?_; clear hA a; intro a hA
      refine D.valgF (dj := 48) hA rfl (by kernel_rfl) rfl (fun _ => R.move rfl) rfl ?_; clear hA a; intro a hA
      refine D.valgF (dj := 48) hA rfl (by kernel_rfl) rfl (fun _ => R.nilCheck rfl) rfl ?_; clear hA a; intro a hA
      refine D.valgF (dj := 48) hA rfl (by kernel_rfl) rfl (fun _ => R.fieldAddr (q := 0) fi51_0 rfl rfl rfl) rfl ?_; clear hA a; intro a hA
      refine D.valg (dj := 48) hA rfl (by kernel_rfl) (by kernel_rfl) rfl (fun _ hM => R.load sz9 rfl (hM.cell (k := 0) rfl rfl)) rfl ?_; clear hA a; intro a hA
      refine D.valgF (dj := 48) hA rfl (by kernel_rfl) rfl (fun _ => R.lenStr Tryd.underlying9 rfl rfl) rfl ?_; clear hA a; intro a hA
      refine D.valgF (dj := 48) hA rfl (by kernel_rfl) rfl (fun _ => R.lss rfl rfl) rfl ?_; clear hA a; intro a hA
      refine D.valF hA rfl (fun _ => R.pickT rfl rfl) rfl ?_; clear hA a; intro a hA
      refine D.done ?_
      replace hA : St 65 [(0, _), (4, _), (5, _), (59, _)] a := hA.sub ((.cons rfl (.cons rfl (.cons rfl (.cons rfl .nil)))))
      exact hJ _ _ ⟨hA.sub (.cons rfl (.cons rfl (.cons rfl (.cons (by first | rfl | exact congrArg (fun b => some (Value.bool b)) (by first | exact decide_eq_decide.2 (by omega) | exact or_bool (by omega) | exact and_bool (by omega) | (simp; done) | (simp [hg7]; done) | (have h80 := hg7; (try simp at h80); simp [h80]; done) | exact (decide_eq_false (fun h9 => hg7 h9.1)).symm)) .nil)))), hM⟩
     ·
      clear hA; intro hg7 hA
      refine D.no (dj := 48) hA rfl (by kernel_rfl) rfl rfl rfl ?_; clear hA a; intro a hA
      refine D.no (dj := 48) hA rfl (by kernel_rfl) rfl rfl rfl ?_; clear hA a; intro a hA
      refine D.no (dj := 48) hA rfl (by kernel_rfl) rfl rfl rfl ?_; clear hA a; intro a hA
      refine D.no (dj := 48) hA rfl (by kernel_rfl) rfl rfl rfl ?_; clear hA a; intro a hA
      refine D.no (dj := 48) hA rfl (by kernel_rfl) rfl rfl rfl ?_; clear hA a; intro a hA
      refine D.no (dj := 48) hA rfl (by kernel_rfl) rfl rfl rfl ?_; clear hA a; intro a hA
      refine D.no (dj := 48) hA rfl (by kernel_rfl) rfl rfl rfl ?_; clear hA a; intro a hA
      refine D.no (dj := 48) hA rfl (by kernel_rfl) rfl rfl rfl ?_; clear hA a; intro a hA
      refine D.no (dj := 48) hA rfl (by kernel_rfl) rfl rfl rfl ?_; clear hA a; intro a hA
      refine D.no (dj := 48) hA rfl (by kernel_rfl) rfl rfl rfl ?_; clear hA a; intro a hA
      refine D.valF hA rfl (fun _ => R.pickF rfl rfl) rfl ?_; clear hA a; intro a hA
      refine D.done ?_
      replace hA : St 65 [(0, _), (4, _), (5, _), (59, _)] a := hA.sub ((.cons rfl (.cons rfl (.cons rfl (.cons rfl .nil)))))
      exact hJ _ _ ⟨hA.sub (.cons rfl (.cons rfl (.cons rfl (.cons (by first | rfl | exact congrArg (fun b => some (Value.bool b)) (by first | exact decide_eq_decide.2 (by omega) | exact or_bool (by omega) | exact and_bool (by omega) | (simp; done) | (simp [hg7]; done) | (have h80 := hg7; (try simp at h80); simp [h80]; done) | exact (decide_eq_false (fun h9 => hg7 h9.1)).symm)) .nil)))), hM⟩
  ·
   refine Ends.skip (Ends.inBlock ?_)
   have hlt9 : p + j < s.size := by have h9 := hp3; rw [hrs] at h9; omega
   have hle9 : isT (byt (s.extract p s.size) j) := (dec_let hp3).1.1 (Decidable.not_not.1 hc4)
   rw [(dec_let hp3).2 hle9] at hM
   rw [byt_ext (by omega) (Nat.le_refl _)] at hle9
   exact hNext ((j + 1)) _ _ ((by show s.size - (p + (j + 1)) < s.size - (p + j); omega)) ⟨hA.sub ((.cons rfl (.cons rfl (.cons rfl (.cons rfl .nil))))), hM, (by omega), (fun i hi => by rcases Nat.lt_or_ge i j with q | q; exact hd i q; have e : i = j := (by omega); rw [e]; exact decide_eq_true ⟨hlt9, hle9⟩)⟩
 ·
  refine S.val hA (R.nextF (k := 0) hM rfl rfl hp3) rfl ?_; clear hA a; intro a hA
  refine S.val hA (R.extract (v := .bool false) rfl rfl) rfl ?_; clear hA a; intro a hA
  refine S.done ?_
  refine Ends.seq ?_
  refine Ends.condF hA rfl ?_
  refine Ends.exit rfl ?_
  refine Ends.seq (Ends.seq ?_)
  have hje : p + j = s.size := by have h9 := hp3; rw [hrs] at h9; omega
  have hy : cLt s p = j := cLt_uniq hd (decide_eq_false fun h8 => absurd h8.1 (by omega))
  rw [show ((s.extract p s.size).size : Int) = (j : Int) by omega] at hA
  replace hM := hM.front (k := 1) rfl
  replace hM := hM.firstN 1
  replace hM : Mem _ _ [pt rb #[.string s, .int .i64 ((p : Int))] 51] _ := hM
  refine Ends.region ?_
  refine S.val hA (R.move rfl) rfl ?_; clear hA a; intro a hA
  refine S.val hA (R.gtr rfl rfl) rfl ?_; clear hA a; intro a hA
  refine S.done ?_
  replace hA : St 65 [(0, _), (4, _), (5, _), (30, _)] a := hA.sub ((.cons rfl (.cons rfl (.cons rfl (.cons rfl .nil)))))
  refine Ends.ite hA rfl (fun hc8 => ?_) (fun hc8 => ?_)
  ·
   have hT : cTr s p = (p + 1048576, 5) := if_pos (by rw [hy]; omega)
   refine Ends.seq (Ends.region ?_)
   refine S.val hA (R.move rfl) rfl ?_; clear hA a; intro a hA
   refine S.val hA (R.nilCheck rfl) rfl ?_; clear hA a; intro a hA
   refine S.val hA (R.fieldAddr (q := 1) fi51_1 rfl rfl rfl) rfl ?_; clear hA a; intro a hA
   refine S.val hA (R.load sz3 rfl (hM.cell (k := 0) rfl rfl)) rfl ?_; clear hA a; intro a hA
   refine S.val hA (R.addI rfl rfl (r := ((p : Int)) + 1048576) rfl (by first | omega | (rw [hrs]; omega))) rfl ?_; clear hA a; intro a hA
   refine S.val hA (R.nilCheck rfl) rfl ?_; clear hA a; intro a hA
   refine S.val hA (R.fieldAddr (q := 1) fi51_1 rfl rfl rfl) rfl ?_; clear hA a; intro a hA
   refine S.store (k := 0) hA hM sz3 rfl rfl rfl rfl rfl ?_; clear hM
   intro w9 hM
   replace hM : Mem _ _ [pt rb #[.string s, .int .i64 (((p : Int)) + 1048576)] 51] _ := hM
   refine S.done ?_
   replace hA : St 65 [(0, _), (4, _), (5, _)] a := hA.sub ((.cons rfl (.cons rfl (.cons rfl .nil))))
   refine Ends.seq (Ends.region ?_)
   refine S.val hA (R.assign rfl) rfl ?_; clear hA a; intro a hA
   refine S.val hA (R.assign rfl) rfl ?_; clear hA a; intro a hA
   refine S.done ?_
   refine Ends.ret2 Tryd.func23 Tryd.results23 hA rfl rfl ?_
   replace hM := hM.firstN 1
   replace hM : Mem _ _ [pt rb #[.string s, .int .i64 (((p : Int)) + 1048576)] 51] _ := hM
   replace hM := hM.firstN 1
   replace hM : Mem _ _ [pt rb #[.string s, .int .i64 (((p : Int)) + 1048576)] 51] _ := hM
   rw [show (p : Int) + 1048576 = ((p + 1048576 : Nat) : Int) by omega] at hM
   rw [hT]
   exact ⟨_, rfl, fun h9 => absurd (show (5 : Int) = 0 from h9) (by decide), hM⟩
  ·
   have hy1 : ¬ 1048576 < cLt s p := by rw [hy]; omega
   refine Ends.skip (Ends.seq (Ends.region ?_))
   refine S.val hA (R.move rfl) rfl ?_; clear hA a; intro a hA
   refine S.val hA (R.nilCheck rfl) rfl ?_; clear hA a; intro a hA
   refine S.val hA (R.fieldAddr (q := 1) fi51_1 rfl rfl rfl) rfl ?_; clear hA a; intro a hA
   refine S.val hA (R.load sz3 rfl (hM.cell (k := 0) rfl rfl)) rfl ?_; clear hA a; intro a hA
   refine S.val hA (R.move rfl) rfl ?_; clear hA a; intro a hA
   refine S.val hA (R.addI rfl rfl (r := ((p + j : Nat) : Int)) (by first | omega | (rw [hrs]; omega)) (by first | omega | (rw [hrs]; omega))) rfl ?_; clear hA a; intro a hA
   refine S.val hA (R.nilCheck rfl) rfl ?_; clear hA a; intro a hA
   refine S.val hA (R.fieldAddr (q := 1) fi51_1 rfl rfl rfl) rfl ?_; clear hA a; intro a hA
   refine S.store (k := 0) hA hM sz3 rfl rfl rfl rfl rfl ?_; clear hM
   intro w10 hM
   replace hM : Mem _ _ [pt rb #[.string s, .int .i64 (((p + j : Nat) : Int))] 51] _ := hM
   refine S.done ?_
   replace hA : St 65 [(0, _), (4, _), (5, _)] a := hA.sub ((.cons rfl (.cons rfl (.cons rfl .nil))))
   refine Ends.seq (Ends.seq ?_)
   refine Ends.cut (fun (a : Act) (wv : World) => St 65 [(0, .pointer (some ⟨rb, 0, none⟩)), (4, .string ((s.extract p s.size))), (5, .int .i64 ((j : Int))), (59, .bool (decide ((((j : Int)) = 0 ∧ (((p + j : Nat) : Int)) < ((s.size : Int))))))] a ∧ Mem w (feet [pt rb #[.string s, .int .i64 ((p : Int))] 51]) [pt rb #[.string s, .int .i64 (((p + j : Nat) : Int))] 51] wv) ?_ (fun k2 hJ => ?_)
   ·
    clear hA hM a; rintro a w11 ⟨hA, hM⟩
    refine Ends.ite hA rfl (fun hc9 => ?_) (fun hc9 => ?_)
    ·
     have hT : cTr s p = (p, 2) := by unfold cTr; rw [if_neg hy1, if_pos ⟨by rw [hy]; omega, by omega⟩]
     refine Ends.seq (Ends.region ?_)
     refine S.val hA (R.assign rfl) rfl ?_; clear hA a; intro a hA
     refine S.val hA (R.assign rfl) rfl ?_; clear hA a; intro a hA
     refine S.done ?_
     refine Ends.ret2 Tryd.func23 Tryd.results23 hA rfl rfl ?_
     replace hM := hM.firstN 1
     replace hM : Mem _ _ [pt rb #[.string s, .int .i64 (((p + j : Nat) : Int))] 51] _ := hM
     replace hM := hM.firstN 1
     replace hM : Mem _ _ [pt rb #[.string s, .int .i64 (((p + j : Nat) : Int))] 51] _ := hM
     rw [show ((p + j : Nat) : Int) = (p : Int) by omega] at hM
     rw [hT]
     exact ⟨_, rfl, fun h9 => absurd (show (2 : Int) = 0 from h9) (by decide), hM⟩
    ·
     have hy2 : ¬ (cLt s p = 0 ∧ p < s.size) := by rw [hy]; intro h9; have h8 := hc9; omega
     refine Ends.skip (Ends.seq ?_)
     refine Ends.drawn (fun _ => True) (.cons (0, true) (.cons (1, true) (.cons (2, true) (.cons (3, true) (.cons (4, false) (.cons (5, true) (.cons (6, true) .nil))))))) 7 mixed (by kernel_rfl) (by kernel_rfl) (by kernel_rfl) trivial ?_
     replace hM := hM.drew
     refine D.valF hA rfl (fun _ => R.move rfl) rfl ?_; clear hA a; intro a hA
     refine D.valF hA rfl (fun _ => R.move rfl) rfl ?_; clear hA a; intro a hA
     refine D.valF hA rfl (fun _ => R.to (v := .string ((((s.extract p s.size)).extract 0 j))) (R.sliceSH Tryd.underlying9 rfl rfl (by first | omega | (rw [hrs]; omega))) (by first | rfl | (congr 2; done) | (congr 2 <;> omega))) rfl ?_; clear hA a; intro a hA
     refine D.valF hA rfl (fun _ => R.move rfl) rfl ?_; clear hA a; intro a hA
     refine D.call hA rfl (R.callF Tryd.func32 rfl rfl rfl) rfl (signs30 s rb (p + j) (by omega) hs ⟨#[10]⟩ [10] (by decide) (by decide) (by decide) _ (hM.hereN 1)) ?_; clear hA a
     rintro e w12 ⟨rfl, hn⟩
     replace hM : Mem _ _ [pt rb #[.string s, .int .i64 ((((sgW s [10] (p + j)).1 : Nat) : Int))] 51] _ := hM.callL 1 hn; clear hn
     refine ⟨.int .i64 ((sgW s [10] (p + j)).2), rfl, trivial, fun a hA => ?_⟩
     refine D.valF hA rfl (fun _ => R.assign rfl) rfl ?_; clear hA a; intro a hA
     refine D.valF hA rfl (fun _ => R.assign rfl) rfl ?_; clear hA a; intro a hA
     refine D.done ?_
     replace hA : St 65 [(2, _), (3, _)] a := hA.sub ((.cons rfl (.cons rfl .nil)))
     refine Ends.ret2 Tryd.func23 Tryd.results23 hA rfl rfl ?_
     replace hM := hM.firstN 1
     replace hM : Mem _ _ [pt rb #[.string s, .int .i64 ((((sgW s [10] (p + j)).1 : Nat) : Int))] 51] _ := hM
     have hT : cTr s p = sgW s [10] (p + j) := by
      unfold cTr
      rw [if_neg hy1, if_neg hy2, hy]
      split
      · rename_i e; rw [sg1_no e]
      · rename_i e; rw [sg1_ok (Decidable.not_not.1 e)]
     rw [hT]
     have hex : (s.extract p s.size).extract 0 j = s.extract p (p + j) := ba_ext (by rw [size_ext (by omega), size_ext (by omega)]; omega) fun i hi => by
      rw [size_ext (by omega)] at hi
      rw [byt_ext (by omega) (by omega), byt_ext (by omega) (Nat.le_refl _), byt_ext (x := p) (y := p + j) (by omega) (by omega), Nat.zero_add]
     exact ⟨_, rfl, fun _ => by rw [hy]; exact hex, hM⟩
   ·
    refine Ends.drawn (Mem w (feet [pt rb #[.string s, .int .i64 ((p : Int))] 51]) [pt rb #[.string s, .int .i64 (((p + j : Nat) : Int))] 51]) (.cons (0, true) (.cons (1, true) (.cons (2, true) (.cons (3, true) (.cons (4, true) (.cons (5, true) (.cons (6, true) (.cons (7, true) (.cons (8, true) (.cons (9, true) (.cons (10, true) (.cons (11, true) (.cons (12, true) (.cons (13, true) .nil)))))))))))))) 14 mixed (by kernel_rfl) (by kernel_rfl) (by kernel_rfl) hM.drew ?_
    replace hM := hM.drew
    refine D.valF hA rfl (fun _ => R.move rfl) rfl ?_; clear hA a; intro a hA
    refine D.valF hA rfl (fun _ => R.eql rfl rfl) rfl ?_; clear hA a; intro a hA
    refine D.valF hA rfl (fun _ => R.move rfl) rfl ?_; clear hA a; intro a hA
    refine hA.split (d := 48) rfl ?_ ?_
    ·
     clear hA; intro hg10 hA
     refine D.valgF (dj := 48) hA rfl (by kernel_rfl) rfl (fun _ => R.move rfl) rfl ?_; clear hA a; intro a hA
     refine D.valgF (dj := 48) hA rfl (by kernel_rfl) rfl (fun _ => R.nilCheck rfl) rfl ?_; clear hA a; intro a hA
     refine D.valgF (dj := 48) hA rfl (by kernel_rfl) rfl (fun _ => R.fieldAddr (q := 1) fi51_1 rfl rfl rfl) rfl ?_; clear hA a; intro a hA
     refine D.valg (dj := 48) hA rfl (by kernel_rfl) (by kernel_rfl) rfl (fun _ hM => R.load sz3 rfl (hM.cell (k := 0) rfl rfl)) rfl ?_; clear hA a; intro a hA
     refine D.valgF (dj := 48) hA rfl (by kernel_rfl) rfl (fun _ => R.move rfl) rfl ?_; clear hA a; intro a hA
     refine D.valgF (dj := 48) hA rfl (by kernel_rfl) rfl (fun _ => R.nilCheck rfl) rfl ?_; clear hA a; intro a hA
     refine D.valgF (dj := 48) hA rfl (by kernel_rfl) rfl (fun _ => R.fieldAddr (q := 0) fi51_0 rfl rfl rfl) rfl ?_; clear hA a; intro a hA
     refine D.valg (dj := 48) hA rfl (by kernel_rfl) (by kernel_rfl) rfl (fun _ hM => R.load sz9 rfl (hM.cell (k := 0) rfl rfl)) rfl ?_; clear hA a; intro a hA
     refine D.valgF (dj := 48) hA rfl (by kernel_rfl) rfl (fun _ => R.lenStr Tryd.underlying9 rfl rfl) rfl ?_; clear hA a; intro a hA
     refine D.valgF (dj := 48) hA rfl (by kernel_rfl) rfl (fun _ => R.lss rfl rfl) rfl ?_; clear hA a; intro a hA
     refine D.valF hA rfl (fun _ => R.pickT rfl rfl) rfl ?_; clear hA a; intro a hA
     refine D.done ?_
     replace hA : St 65 [(0, _), (4, _), (5, _), (59, _)] a := hA.sub ((.cons rfl (.cons rfl (.cons rfl (.cons rfl .nil)))))
     exact hJ _ _ ⟨hA.sub (.cons rfl (.cons rfl (.cons rfl (.cons (by first | rfl | exact congrArg (fun b => some (Value.bool b)) (by first | exact decide_eq_decide.2 (by omega) | exact or_bool (by omega) | exact and_bool (by omega) | (simp; done) | (simp [hg10]; done) | (have h80 := hg10; (try simp at h80); simp [h80]; done) | exact (decide_eq_false (fun h9 => hg10 h9.1)).symm)) .nil)))), hM⟩
    ·
     clear hA; intro hg10 hA
     refine D.no (dj := 48) hA rfl (by kernel_rfl) rfl rfl rfl ?_; clear hA a; intro a hA
     refine D.no (dj := 48) hA rfl (by kernel_rfl) rfl rfl rfl ?_; clear hA a; intro a hA
     refine D.no (dj := 48) hA rfl (by kernel_rfl) rfl rfl rfl ?_; clear hA a; intro a hA
     refine D.no (dj := 48) hA rfl (by kernel_rfl) rfl rfl rfl ?_; clear hA a; intro a hA
     refine D.no (dj := 48) hA rfl (by kernel_rfl) rfl rfl rfl ?_; clear hA a; intro a hA
     refine D.no (dj := 48) hA rfl (by kernel_rfl) rfl rfl rfl ?_; clear hA a; intro a hA
     refine D.no (dj := 48) hA rfl (by kernel_rfl) rfl rfl rfl ?_; clear hA a; intro a hA
     refine D.no (dj := 48) hA rfl (by kernel_rfl) rfl rfl rfl ?_; clear hA a; intro a hA
     refine D.no (dj := 48) hA rfl (by kernel_rfl) rfl rfl rfl ?_; clear hA a; intro a hA
     refine D.no (dj := 48) hA rfl (by kernel_rfl) rfl rfl rfl ?_; clear hA a; intro a hA
     refine D.valF hA rfl (fun _ => R.pickF rfl rfl) rfl ?_; clear hA a; intro a hA
     refine D.done ?_
     replace hA : St 65 [(0, _), (4, _), (5, _), (59, _)] a := hA.sub ((.cons rfl (.cons rfl (.cons rfl (.cons rfl .nil)))))
     exact hJ _ _ ⟨hA.sub (.cons rfl (.cons rfl (.cons rfl (.cons (by first | rfl | exact congrArg (fun b => some (Value.bool b)) (by first | exact decide_eq_decide.2 (by omega) | exact or_bool (by omega) | exact and_bool (by omega) | (simp; done) | (simp [hg10]; done) | (have h80 := hg10; (try simp at h80); simp [h80]; done) | exact (decide_eq_false (fun h9 => hg10 h9.1)).symm)) .nil)))), hM⟩
theorem cNb_le (s : ByteArray) (n p : Nat) (hp : p ≤ s.size) : ∀ k, (cNb s n p k).2.2 = 0 → (cNb s n p k).2.1 ≤ s.size
  | 0, _ => hp
  | k + 1, h => by
    rw [cNb] at h ⊢
    split at h
    · rename_i e; exact absurd h e
    rename_i e; rw [if_neg e]
    split at h
    · rename_i e; exact absurd h e
    rename_i e2; rw [if_neg e2]
    split at h
    · rename_i e; exact absurd h e
    rename_i e3; rw [if_neg e3]
    exact sgE_lt (Decidable.not_not.1 e3)
theorem cN_le (s : ByteArray) (h1 : (cHd s).2 = 0) (h2 : (cN s).2.2 = 0) : (cN s).2.1 ≤ s.size := cNb_le s _ _ (cHd_le s h1) _ h2
theorem cHd_n {s : ByteArray} (f : (cHd s).2 = 0) : 1 ≤ (cH3 s).1 ∧ (cH3 s).1 ≤ 64 := by
  have hv : 0 ≤ (cH3 s).1 ∧ (cH3 s).1 ≤ 64 := nm_val (by decide)
  refine ⟨?_, hv.2⟩
  unfold cHd at f
  split at f
  · rename_i e; exact absurd f e
  split at f
  · rename_i e; exact absurd f e
  split at f
  · rename_i e; exact absurd f e
  split at f
  · rename_i e; exact absurd f e
  split at f
  · exact absurd (show (1 : Int) = 0 from f) (by decide)
  rename_i e; omega
set_option maxRecDepth 100000 in
set_option maxHeartbeats 400000 in
theorem cread30 (s : ByteArray) (hs : s.size ≤ 4611686018427387904) (w : World) :
  Calls Tryd.prog 14 #[.string s] w fun e w' => ∃ oa oc, e = .returned (.tuple #[.agg #[.int .i64 (rdC s).1.v, .slice oa (rdC s).1.X.length oc, .string (rdC s).1.t], .int .i64 (rdC s).2.1, .int .i64 (rdC s).2.2]) ∧ Mem w nof [own 3 1 (.slice oa (((rdC s).1.X).length) oc) (((rdC s).1.X).length) (((rdC s).1.X).map (Value.int .i64))] w' := by
 have hbs := Below.refl (B := w.heap.size) w
 have hM := Mem.start w
 refine Calls.of_ends (vs := [.string s]) Tryd.func14 rfl Tryd.ntmps14 rfl ?_
 intro a hA
 replace hA : St 70 [(0, _)] a := hA
 refine Ends.seq (Ends.region ?_)
 refine S.alloc hA hM info26 rfl rfl ?_; clear hA hM a; intro b1 w1 hb2 hM a hA
 replace hM : Mem _ _ [pt b1 #[.int .i64 0, .slice none 0 0, .string (⟨#[]⟩)] 26] _ := hM
 refine S.val hA (R.assign rfl) rfl ?_; clear hA a; intro a hA
 refine S.val hA (R.assign rfl) rfl ?_; clear hA a; intro a hA
 refine S.done ?_
 refine Ends.seq (Ends.region ?_)
 refine S.val hA (R.move rfl) rfl ?_; clear hA a; intro a hA
 refine S.val hA (R.build (cells := #[.string s, .int .i64 0]) rfl (by kernel_rfl)) rfl ?_; clear hA a; intro a hA
 refine S.box hA hM rfl rfl ?_; clear hA hM a; intro b3 w2 hb4 hM a hA
 replace hM : Mem _ _ [pt b3 #[.string s, .int .i64 0] 51, pt b1 #[.int .i64 0, .slice none 0 0, .string (⟨#[]⟩)] 26] _ := hM
 refine S.val hA (R.assign rfl) rfl ?_; clear hA a; intro a hA
 refine S.done ?_
 replace hA : St 70 [(0, _), (2, _), (5, _)] a := hA.sub ((.cons rfl (.cons rfl (.cons rfl .nil))))
 refine Ends.seq ?_
 obtain ⟨rb, hrb⟩ : ∃ rb, rb = b3 := ⟨_, rfl⟩
 rw [← hrb] at hM hA
 replace hM : Mem _ _ [pt rb #[.string s, .int .i64 0] 51, pt b1 #[.int .i64 0, .slice none 0 0, .string (⟨#[]⟩)] 26] _ := hM
 refine Ends.region ?_
 refine S.val hA (R.move rfl) rfl ?_; clear hA a; intro a hA
 refine S.call hA (R.callF Tryd.func21 rfl rfl rfl) rfl (head30 s rb hs _ (hM.hereN 1)) ?_; clear hA a
 rintro e w3 ⟨hv, hn9, rfl, hve, hn⟩
 replace hM : Mem _ _ [pt rb #[.string s, .int .i64 ((((cHd s).1 : Nat) : Int))] 51, pt b1 #[.int .i64 0, .slice none 0 0, .string (⟨#[]⟩)] 26] _ := hM.callL 1 hn; clear hn
 refine ⟨.tuple #[.int .i64 hv, .int .i64 hn9, .int .i64 ((cHd s).2)], rfl, fun a hA => ?_⟩
 refine S.val hA (R.move rfl) rfl ?_; clear hA a; intro a hA
 refine S.val hA (R.extract (v := .int .i64 hv) rfl rfl) rfl ?_; clear hA a; intro a hA
 refine S.val hA (R.extract (v := .int .i64 hn9) rfl rfl) rfl ?_; clear hA a; intro a hA
 refine S.val hA (R.extract (v := .int .i64 ((cHd s).2)) rfl rfl) rfl ?_; clear hA a; intro a hA
 refine S.val hA (R.assign rfl) rfl ?_; clear hA a; intro a hA
 refine S.val hA (R.assign rfl) rfl ?_; clear hA a; intro a hA
 refine S.val hA (R.assign rfl) rfl ?_; clear hA a; intro a hA
 refine S.done ?_
 replace hA : St 70 [(0, _), (2, _), (5, _), (6, _), (7, _), (8, _)] a := hA.sub ((.cons rfl (.cons rfl (.cons rfl (.cons rfl (.cons rfl (.cons rfl .nil)))))))
 refine Ends.seq (Ends.seq (Ends.region ?_))
 refine S.val hA (R.move rfl) rfl ?_; clear hA a; intro a hA
 refine S.val hA (R.neq rfl rfl) rfl ?_; clear hA a; intro a hA
 refine S.done ?_
 refine Ends.ite hA rfl (fun hc5 => ?_) (fun hc5 => ?_)
 ·
  have hT : rdC s = (crz, ((cHd s).1 : Int), (cHd s).2) := if_pos hc5
  refine Ends.seq ?_
  refine Ends.drawn (Mem w nof [pt rb #[.string s, .int .i64 ((((cHd s).1 : Nat) : Int))] 51]) (.cons (0, true) (.cons (1, true) (.cons (2, true) (.cons (3, true) (.cons (4, true) (.cons (5, true) (.cons (6, false) (.cons (7, true) (.cons (8, true) .nil))))))))) 9 mixed (by kernel_rfl) (by kernel_rfl) (by kernel_rfl) (hM.drop 1).drew ?_
  replace hM := hM.drew
  refine D.valF hA rfl (fun _ => R.build (cells := #[.int .i64 0, .slice none 0 0, .string (⟨#[]⟩)]) rfl (by kernel_rfl)) rfl ?_; clear hA a; intro a hA
  refine D.valF hA rfl (fun _ => R.move rfl) rfl ?_; clear hA a; intro a hA
  refine D.valF hA rfl (fun _ => R.nilCheck rfl) rfl ?_; clear hA a; intro a hA
  refine D.valF hA rfl (fun _ => R.fieldAddr (q := 1) fi51_1 rfl rfl rfl) rfl ?_; clear hA a; intro a hA
  refine D.val hA rfl (by kernel_rfl) (fun _ hM => R.load sz3 rfl (hM.cell (k := 0) rfl rfl)) rfl ?_; clear hA a; intro a hA
  refine D.valF hA rfl (fun _ => R.move rfl) rfl ?_; clear hA a; intro a hA
  refine D.storeA (k := 1) hA hM rfl sz26 rfl rfl rfl rfl rfl rfl ?_; clear hM
  intro w4 hM; refine ⟨fun _ _ => (hM.drop 1), ?_⟩
  replace hM : Mem _ _ [pt rb #[.string s, .int .i64 ((((cHd s).1 : Nat) : Int))] 51, pt b1 #[.int .i64 0, .slice none 0 0, .string (⟨#[]⟩)] 26] _ := hM
  refine D.valF hA rfl (fun _ => R.assign rfl) rfl ?_; clear hA a; intro a hA
  refine D.valF hA rfl (fun _ => R.assign rfl) rfl ?_; clear hA a; intro a hA
  refine D.done ?_
  replace hA : St 70 [(0, _), (2, _), (3, _), (4, _), (5, _), (6, _), (7, _)] a := hA.sub ((.cons rfl (.cons rfl (.cons rfl (.cons rfl (.cons rfl (.cons rfl (.cons rfl .nil))))))))
  refine Ends.retC3 (k := 1) Tryd.func14 Tryd.results14 hA hM rfl rfl rfl rfl sz26 rfl ?_
  replace hM := hM.nilL.ownNil 3 1
  rw [hT]
  exact ⟨none, 0, rfl, hM⟩
 ·
  have hz1 := Decidable.not_not.1 hc5
  obtain ⟨rfl, rfl⟩ := hve hz1
  have hn3 := cHd_n hz1
  refine Ends.skip (Ends.seq ?_)
  rw [show (cH3 s).1 = (((cH3 s).1.toNat : Nat) : Int) by omega] at hA
  refine Ends.region ?_
  refine S.val hA (R.move rfl) rfl ?_; clear hA a; intro a hA
  refine S.val hA (R.move rfl) rfl ?_; clear hA a; intro a hA
  refine S.call hA (R.callF Tryd.func22 rfl rfl rfl) rfl (numbers30 s rb (cHd s).1 (cHd_le s hz1) hs (cH3 s).1.toNat (by omega) (by omega) _ (hM.hereN 1)) ?_; clear hA a
  rintro e w5 ⟨oa, oc, rfl, hn⟩
  replace hM : Mem _ _ [pt rb #[.string s, .int .i64 ((((cN s).2.1 : Nat) : Int))] 51, own 3 1 (.slice oa (((cN s).1).length) oc) (((cN s).1).length) (((cN s).1).map (Value.int .i64)), pt b1 #[.int .i64 0, .slice none 0 0, .string (⟨#[]⟩)] 26] _ := hM.callL 1 hn; clear hn
  refine ⟨.tuple #[.slice oa ((cN s).1.length) oc, .int .i64 ((cN s).2.2)], rfl, fun a hA => ?_⟩
  refine S.val hA (R.move rfl) rfl ?_; clear hA a; intro a hA
  refine S.val hA (R.extract (v := .slice oa ((cN s).1.length) oc) rfl rfl) rfl ?_; clear hA a; intro a hA
  refine S.val hA (R.extract (v := .int .i64 ((cN s).2.2)) rfl rfl) rfl ?_; clear hA a; intro a hA
  refine S.val hA (R.assign rfl) rfl ?_; clear hA a; intro a hA
  refine S.val hA (R.assign rfl) rfl ?_; clear hA a; intro a hA
  refine S.done ?_
  replace hA : St 70 [(0, _), (2, _), (5, _), (6, _), (8, _), (9, _)] a := hA.sub ((.cons rfl (.cons rfl (.cons rfl (.cons rfl (.cons rfl (.cons rfl .nil)))))))
  refine Ends.seq (Ends.seq (Ends.region ?_))
  refine S.val hA (R.move rfl) rfl ?_; clear hA a; intro a hA
  refine S.val hA (R.neq rfl rfl) rfl ?_; clear hA a; intro a hA
  refine S.done ?_
  refine Ends.ite hA rfl (fun hc6 => ?_) (fun hc6 => ?_)
  ·
   have hT : rdC s = (crz, ((cN s).2.1 : Int), (cN s).2.2) := by unfold rdC; rw [if_neg (not_not_intro hz1), if_pos hc6]
   refine Ends.seq ?_
   refine Ends.drawn (Mem w nof [pt rb #[.string s, .int .i64 ((((cN s).2.1 : Nat) : Int))] 51]) (.cons (0, true) (.cons (1, true) (.cons (2, true) (.cons (3, true) (.cons (4, true) (.cons (5, true) (.cons (6, false) (.cons (7, true) (.cons (8, true) .nil))))))))) 9 mixed (by kernel_rfl) (by kernel_rfl) (by kernel_rfl) ((hM.drop 2).drop 1).drew ?_
   replace hM := hM.drew
   refine D.valF hA rfl (fun _ => R.build (cells := #[.int .i64 0, .slice none 0 0, .string (⟨#[]⟩)]) rfl (by kernel_rfl)) rfl ?_; clear hA a; intro a hA
   refine D.valF hA rfl (fun _ => R.move rfl) rfl ?_; clear hA a; intro a hA
   refine D.valF hA rfl (fun _ => R.nilCheck rfl) rfl ?_; clear hA a; intro a hA
   refine D.valF hA rfl (fun _ => R.fieldAddr (q := 1) fi51_1 rfl rfl rfl) rfl ?_; clear hA a; intro a hA
   refine D.val hA rfl (by kernel_rfl) (fun _ hM => R.load sz3 rfl (hM.cell (k := 0) rfl rfl)) rfl ?_; clear hA a; intro a hA
   refine D.valF hA rfl (fun _ => R.move rfl) rfl ?_; clear hA a; intro a hA
   refine D.storeA (k := 2) hA hM rfl sz26 rfl rfl rfl rfl rfl rfl ?_; clear hM
   intro w6 hM; refine ⟨fun _ _ => ((hM.drop 2).drop 1), ?_⟩
   replace hM : Mem _ _ [pt rb #[.string s, .int .i64 ((((cN s).2.1 : Nat) : Int))] 51, own 3 1 (.slice oa (((cN s).1).length) oc) (((cN s).1).length) (((cN s).1).map (Value.int .i64)), pt b1 #[.int .i64 0, .slice none 0 0, .string (⟨#[]⟩)] 26] _ := hM
   refine D.valF hA rfl (fun _ => R.assign rfl) rfl ?_; clear hA a; intro a hA
   refine D.valF hA rfl (fun _ => R.assign rfl) rfl ?_; clear hA a; intro a hA
   refine D.done ?_
   replace hA : St 70 [(0, _), (2, _), (3, _), (4, _), (5, _), (6, _), (9, _)] a := hA.sub ((.cons rfl (.cons rfl (.cons rfl (.cons rfl (.cons rfl (.cons rfl (.cons rfl .nil))))))))
   refine Ends.retC3 (k := 2) Tryd.func14 Tryd.results14 hA hM rfl rfl rfl rfl sz26 rfl ?_
   replace hM := hM.nilL.ownNil 3 1
   rw [hT]
   exact ⟨none, 0, rfl, hM⟩
  ·
   have hz2 := Decidable.not_not.1 hc6
   refine Ends.skip (Ends.seq (Ends.region ?_))
   refine S.val hA (R.move rfl) rfl ?_; clear hA a; intro a hA
   refine S.call hA (R.callF Tryd.func23 rfl rfl rfl) rfl (tree30 s rb (cN s).2.1 (cN_le s hz1 hz2) hs _ (hM.hereN 1)) ?_; clear hA a
   rintro e w7 ⟨u, rfl, hue, hn⟩
   replace hM : Mem _ _ [pt rb #[.string s, .int .i64 ((((cT s).1 : Nat) : Int))] 51, own 3 1 (.slice oa (((cN s).1).length) oc) (((cN s).1).length) (((cN s).1).map (Value.int .i64)), pt b1 #[.int .i64 0, .slice none 0 0, .string (⟨#[]⟩)] 26] _ := hM.callL 1 hn; clear hn
   refine ⟨.tuple #[.string u, .int .i64 ((cT s).2)], rfl, fun a hA => ?_⟩
   refine S.val hA (R.move rfl) rfl ?_; clear hA a; intro a hA
   refine S.val hA (R.extract (v := .string u) rfl rfl) rfl ?_; clear hA a; intro a hA
   refine S.val hA (R.extract (v := .int .i64 ((cT s).2)) rfl rfl) rfl ?_; clear hA a; intro a hA
   refine S.val hA (R.assign rfl) rfl ?_; clear hA a; intro a hA
   refine S.val hA (R.assign rfl) rfl ?_; clear hA a; intro a hA
   refine S.done ?_
   replace hA : St 70 [(0, _), (2, _), (5, _), (6, _), (8, _), (9, _), (10, _)] a := hA.sub ((.cons rfl (.cons rfl (.cons rfl (.cons rfl (.cons rfl (.cons rfl (.cons rfl .nil))))))))
   refine Ends.seq (Ends.seq ?_)
   refine Ends.cut (fun (a : Act) (wv : World) => St 70 [(2, .pointer (some ⟨b1, 0, none⟩)), (5, .pointer (some ⟨rb, 0, none⟩)), (6, .int .i64 ((cH2 s).1)), (8, .int .i64 ((cT s).2)), (9, .slice oa ((cN s).1.length) oc), (10, .string u), (57, .bool (decide ((((cT s).2) = 0 ∧ ((((cT s).1 : Nat) : Int)) < ((s.size : Int))))))] a ∧ Mem w nof [pt rb #[.string s, .int .i64 ((((cT s).1 : Nat) : Int))] 51, own 3 1 (.slice oa (((cN s).1).length) oc) (((cN s).1).length) (((cN s).1).map (Value.int .i64)), pt b1 #[.int .i64 0, .slice none 0 0, .string (⟨#[]⟩)] 26] wv) ?_ (fun k2 hJ => ?_)
   ·
    clear hA hM a; rintro a w8 ⟨hA, hM⟩
    refine Ends.ite hA rfl (fun hc7 => ?_) (fun hc7 => ?_)
    ·
     have hz3 := hc7.1
     have hT : rdC s = (crz, ((cT s).1 : Int), 7) := by unfold rdC; rw [if_neg (not_not_intro hz1), if_neg (not_not_intro hz2), if_neg (not_not_intro hz3), if_pos (by have h9 := hc7.2; omega)]
     refine Ends.region ?_
     refine S.val hA (R.assign rfl) rfl ?_; clear hA a; intro a hA
     refine S.done ?_
     refine Ends.seq (Ends.seq (Ends.region ?_))
     refine S.val hA (R.move rfl) rfl ?_; clear hA a; intro a hA
     refine S.val hA (R.tt (R.neq rfl rfl) (by first | decide | simp | omega)) rfl ?_; clear hA a; intro a hA
     refine S.done ?_
     refine Ends.condT hA rfl ?_
     refine Ends.seq ?_
     refine Ends.drawn (Mem w nof [pt rb #[.string s, .int .i64 ((((cT s).1 : Nat) : Int))] 51]) (.cons (0, true) (.cons (1, true) (.cons (2, true) (.cons (3, true) (.cons (4, true) (.cons (5, true) (.cons (6, false) (.cons (7, true) (.cons (8, true) .nil))))))))) 9 mixed (by kernel_rfl) (by kernel_rfl) (by kernel_rfl) ((hM.drop 2).drop 1).drew ?_
     replace hM := hM.drew
     refine D.valF hA rfl (fun _ => R.build (cells := #[.int .i64 0, .slice none 0 0, .string (⟨#[]⟩)]) rfl (by kernel_rfl)) rfl ?_; clear hA a; intro a hA
     refine D.valF hA rfl (fun _ => R.move rfl) rfl ?_; clear hA a; intro a hA
     refine D.valF hA rfl (fun _ => R.nilCheck rfl) rfl ?_; clear hA a; intro a hA
     refine D.valF hA rfl (fun _ => R.fieldAddr (q := 1) fi51_1 rfl rfl rfl) rfl ?_; clear hA a; intro a hA
     refine D.val hA rfl (by kernel_rfl) (fun _ hM => R.load sz3 rfl (hM.cell (k := 0) rfl rfl)) rfl ?_; clear hA a; intro a hA
     refine D.valF hA rfl (fun _ => R.move rfl) rfl ?_; clear hA a; intro a hA
     refine D.storeA (k := 2) hA hM rfl sz26 rfl rfl rfl rfl rfl rfl ?_; clear hM
     intro w9 hM; refine ⟨fun _ _ => ((hM.drop 2).drop 1), ?_⟩
     replace hM : Mem _ _ [pt rb #[.string s, .int .i64 ((((cT s).1 : Nat) : Int))] 51, own 3 1 (.slice oa (((cN s).1).length) oc) (((cN s).1).length) (((cN s).1).map (Value.int .i64)), pt b1 #[.int .i64 0, .slice none 0 0, .string (⟨#[]⟩)] 26] _ := hM
     refine D.valF hA rfl (fun _ => R.assign rfl) rfl ?_; clear hA a; intro a hA
     refine D.valF hA rfl (fun _ => R.assign rfl) rfl ?_; clear hA a; intro a hA
     refine D.done ?_
     replace hA : St 70 [(2, _), (3, _), (4, _), (6, _), (9, _), (10, _)] a := hA.sub ((.cons rfl (.cons rfl (.cons rfl (.cons rfl (.cons rfl (.cons rfl .nil)))))))
     refine Ends.retC3 (k := 2) Tryd.func14 Tryd.results14 hA hM rfl rfl rfl rfl sz26 rfl ?_
     replace hM := hM.nilL.ownNil 3 1
     rw [hT]
     exact ⟨none, 0, rfl, hM⟩
    ·
     refine Ends.skip (Ends.seq (Ends.seq (Ends.region ?_)))
     refine S.val hA (R.move rfl) rfl ?_; clear hA a; intro a hA
     refine S.val hA (R.neq rfl rfl) rfl ?_; clear hA a; intro a hA
     refine S.done ?_
     refine Ends.ite hA rfl (fun hc8 => ?_) (fun hc8 => ?_)
     ·
      have hT : rdC s = (crz, ((cT s).1 : Int), (cT s).2) := by unfold rdC; rw [if_neg (not_not_intro hz1), if_neg (not_not_intro hz2), if_pos hc8]
      refine Ends.seq ?_
      refine Ends.drawn (Mem w nof [pt rb #[.string s, .int .i64 ((((cT s).1 : Nat) : Int))] 51]) (.cons (0, true) (.cons (1, true) (.cons (2, true) (.cons (3, true) (.cons (4, true) (.cons (5, true) (.cons (6, false) (.cons (7, true) (.cons (8, true) .nil))))))))) 9 mixed (by kernel_rfl) (by kernel_rfl) (by kernel_rfl) ((hM.drop 2).drop 1).drew ?_
      replace hM := hM.drew
      refine D.valF hA rfl (fun _ => R.build (cells := #[.int .i64 0, .slice none 0 0, .string (⟨#[]⟩)]) rfl (by kernel_rfl)) rfl ?_; clear hA a; intro a hA
      refine D.valF hA rfl (fun _ => R.move rfl) rfl ?_; clear hA a; intro a hA
      refine D.valF hA rfl (fun _ => R.nilCheck rfl) rfl ?_; clear hA a; intro a hA
      refine D.valF hA rfl (fun _ => R.fieldAddr (q := 1) fi51_1 rfl rfl rfl) rfl ?_; clear hA a; intro a hA
      refine D.val hA rfl (by kernel_rfl) (fun _ hM => R.load sz3 rfl (hM.cell (k := 0) rfl rfl)) rfl ?_; clear hA a; intro a hA
      refine D.valF hA rfl (fun _ => R.move rfl) rfl ?_; clear hA a; intro a hA
      refine D.storeA (k := 2) hA hM rfl sz26 rfl rfl rfl rfl rfl rfl ?_; clear hM
      intro w10 hM; refine ⟨fun _ _ => ((hM.drop 2).drop 1), ?_⟩
      replace hM : Mem _ _ [pt rb #[.string s, .int .i64 ((((cT s).1 : Nat) : Int))] 51, own 3 1 (.slice oa (((cN s).1).length) oc) (((cN s).1).length) (((cN s).1).map (Value.int .i64)), pt b1 #[.int .i64 0, .slice none 0 0, .string (⟨#[]⟩)] 26] _ := hM
      refine D.valF hA rfl (fun _ => R.assign rfl) rfl ?_; clear hA a; intro a hA
      refine D.valF hA rfl (fun _ => R.assign rfl) rfl ?_; clear hA a; intro a hA
      refine D.done ?_
      replace hA : St 70 [(2, _), (3, _), (4, _), (6, _), (9, _), (10, _)] a := hA.sub ((.cons rfl (.cons rfl (.cons rfl (.cons rfl (.cons rfl (.cons rfl .nil)))))))
      refine Ends.retC3 (k := 2) Tryd.func14 Tryd.results14 hA hM rfl rfl rfl rfl sz26 rfl ?_
      replace hM := hM.nilL.ownNil 3 1
      rw [hT]
      exact ⟨none, 0, rfl, hM⟩
     ·
      have hz3 := Decidable.not_not.1 hc8
      have hT : rdC s = (⟨(cH2 s).1, (cN s).1, s.extract (cN s).2.1 ((cN s).2.1 + cLt s (cN s).2.1)⟩, 0, 0) := by unfold rdC; rw [if_neg (not_not_intro hz1), if_neg (not_not_intro hz2), if_neg (not_not_intro hz3), if_neg (fun h9 => hc7 ⟨hz3, by omega⟩)]
      rw [hue hz3] at hA
      refine Ends.skip (Ends.seq (Ends.region ?_))
      refine S.val hA (R.move rfl) rfl ?_; clear hA a; intro a hA
      refine S.val hA (R.move rfl) rfl ?_; clear hA a; intro a hA
      refine S.val hA (R.move rfl) rfl ?_; clear hA a; intro a hA
      refine S.val hA (R.build (cells := #[.int .i64 ((cH2 s).1), .slice oa ((cN s).1.length) oc, .string ((s.extract (cN s).2.1 ((cN s).2.1 + cLt s (cN s).2.1)))]) rfl (by kernel_rfl)) rfl ?_; clear hA a; intro a hA
      refine S.storeA (k := 2) hA hM sz26 rfl rfl rfl rfl rfl rfl ?_; clear hM
      intro w11 hM
      replace hM : Mem _ _ [pt rb #[.string s, .int .i64 ((((cT s).1 : Nat) : Int))] 51, own 3 1 (.slice oa (((cN s).1).length) oc) (((cN s).1).length) (((cN s).1).map (Value.int .i64)), pt b1 #[.int .i64 ((cH2 s).1), .slice oa ((cN s).1.length) oc, .string ((s.extract (cN s).2.1 ((cN s).2.1 + cLt s (cN s).2.1)))] 26] _ := hM
      refine S.val hA (R.assign rfl) rfl ?_; clear hA a; intro a hA
      refine S.val hA (R.assign rfl) rfl ?_; clear hA a; intro a hA
      refine S.done ?_
      replace hA : St 70 [(2, _), (3, _), (4, _)] a := hA.sub ((.cons rfl (.cons rfl (.cons rfl .nil))))
      refine Ends.retC3 (k := 2) Tryd.func14 Tryd.results14 hA hM rfl rfl rfl rfl sz26 rfl ?_
      replace hM := hM.front (k := 1) rfl
      replace hM := hM.firstN 1
      rw [hT]
      exact ⟨_, _, rfl, hM⟩
   ·
    refine Ends.region ?_
    refine S.val hA (R.move rfl) rfl ?_; clear hA a; intro a hA
    refine S.val hA (R.eql rfl rfl) rfl ?_; clear hA a; intro a hA
    refine S.val hA (R.move rfl) rfl ?_; clear hA a; intro a hA
    refine hA.split (d := 49) rfl ?_ ?_
    ·
     clear hA; intro hg9 hA
     refine S.valg (dj := 49) hA (by kernel_rfl) rfl (R.move rfl) rfl ?_; clear hA a; intro a hA
     refine S.valg (dj := 49) hA (by kernel_rfl) rfl (R.nilCheck rfl) rfl ?_; clear hA a; intro a hA
     refine S.valg (dj := 49) hA (by kernel_rfl) rfl (R.fieldAddr (q := 1) fi51_1 rfl rfl rfl) rfl ?_; clear hA a; intro a hA
     refine S.valg (dj := 49) hA (by kernel_rfl) rfl (R.load sz3 rfl (hM.cell (k := 0) rfl rfl)) rfl ?_; clear hA a; intro a hA
     refine S.valg (dj := 49) hA (by kernel_rfl) rfl (R.move rfl) rfl ?_; clear hA a; intro a hA
     refine S.valg (dj := 49) hA (by kernel_rfl) rfl (R.lenStr Tryd.underlying9 rfl rfl) rfl ?_; clear hA a; intro a hA
     refine S.valg (dj := 49) hA (by kernel_rfl) rfl (R.lss rfl rfl) rfl ?_; clear hA a; intro a hA
     refine S.val hA (R.pickT rfl rfl) rfl ?_; clear hA a; intro a hA
     refine S.done ?_
     replace hA : St 70 [(2, _), (5, _), (6, _), (8, _), (9, _), (10, _), (57, _)] a := hA.sub ((.cons rfl (.cons rfl (.cons rfl (.cons rfl (.cons rfl (.cons rfl (.cons rfl .nil))))))))
     exact hJ _ _ ⟨hA.sub (.cons rfl (.cons rfl (.cons rfl (.cons rfl (.cons rfl (.cons rfl (.cons (by first | rfl | exact congrArg (fun b => some (Value.bool b)) (by first | exact decide_eq_decide.2 (by omega) | exact or_bool (by omega) | exact and_bool (by omega) | (simp; done) | (simp [hg9]; done) | (have h80 := hg9; (try simp at h80); simp [h80]; done) | exact (decide_eq_false (fun h9 => hg9 h9.1)).symm)) .nil))))))), hM⟩
    ·
     clear hA; intro hg9 hA
     refine S.no (dj := 49) hA (by kernel_rfl) rfl rfl rfl ?_; clear hA a; intro a hA
     refine S.no (dj := 49) hA (by kernel_rfl) rfl rfl rfl ?_; clear hA a; intro a hA
     refine S.no (dj := 49) hA (by kernel_rfl) rfl rfl rfl ?_; clear hA a; intro a hA
     refine S.no (dj := 49) hA (by kernel_rfl) rfl rfl rfl ?_; clear hA a; intro a hA
     refine S.no (dj := 49) hA (by kernel_rfl) rfl rfl rfl ?_; clear hA a; intro a hA
     refine S.no (dj := 49) hA (by kernel_rfl) rfl rfl rfl ?_; clear hA a; intro a hA
     refine S.no (dj := 49) hA (by kernel_rfl) rfl rfl rfl ?_; clear hA a; intro a hA
     refine S.val hA (R.pickF rfl rfl) rfl ?_; clear hA a; intro a hA
     refine S.done ?_
     replace hA : St 70 [(2, _), (5, _), (6, _), (8, _), (9, _), (10, _), (57, _)] a := hA.sub ((.cons rfl (.cons rfl (.cons rfl (.cons rfl (.cons rfl (.cons rfl (.cons rfl .nil))))))))
     exact hJ _ _ ⟨hA.sub (.cons rfl (.cons rfl (.cons rfl (.cons rfl (.cons rfl (.cons rfl (.cons (by first | rfl | exact congrArg (fun b => some (Value.bool b)) (by first | exact decide_eq_decide.2 (by omega) | exact or_bool (by omega) | exact and_bool (by omega) | (simp; done) | (simp [hg9]; done) | (have h80 := hg9; (try simp at h80); simp [h80]; done) | exact (decide_eq_false (fun h9 => hg9 h9.1)).symm)) .nil))))))), hM⟩
end Go.Proofs.YtnhnjjlfoajbgaaDoor
namespace Go.Proofs.YtnhnjjlfoajbgaaDoor
open Go.RowKit
def wrP (c : Crt) (L : List UInt8) (er : Int) : Prop := (frmC c ∧ L = txtC c ∧ er = 0) ∨ (¬ frmC c ∧ L = [] ∧ er = 8)
def svC (n : Int) : Value := .string (bs (Lib.itoa n))
theorem svC_snoc {X : List Int} {k : Nat} (h : k < X.length) : (X.take k).map svC ++ [.string (bs (Lib.itoa (X.getD k 0)))] = (X.take (k + 1)).map svC := by
  rw [take_succ_getD X k h, List.map_append]; rfl
theorem joinC_any {w0 : World} {F : Nat → Prop} {L : List Ck} (oa : Option Addr) (X : List Int) (oc : Nat) (hX : 0 < X.length ∧ X.length ≤ 1000) (hb : ∀ x ∈ X, bd64 x) (w : World) (hM : Mem w0 F (own 9 1 (.slice oa X.length oc) X.length (X.map svC) :: L) w) :
    Calls Tryd.prog 18 #[.slice oa X.length oc, .string (bs [32])] w fun e w' => e = .returned (.string (bs (Lib.join (X.map Lib.itoa) [32]))) ∧ Below w.heap.size w w' := by
  obtain ⟨g, rfl⟩ := hM.ownAt (k := 0) rfl hX.1
  have e1 : (X.map fun n => bs (Lib.itoa n)).length = X.length := by simp
  have e2 : (X.map fun n => bs (Lib.itoa n)).map (fun b : ByteArray => b.data.toList) = X.map Lib.itoa := by rw [List.map_map]; rfl
  have hlen := join_len hb
  have h := Tryd.strings_Join g 0 oc (X.map fun n => bs (Lib.itoa n)) (bs [32]) w (fun j x hj => by
    rw [Nat.zero_add]
    refine hM.ownCell (k := 0) rfl ?_
    rw [List.getElem?_map] at hj ⊢
    cases hq : X[j]? with
    | none => rw [hq] at hj; cases hj
    | some n => rw [hq] at hj; cases hj; rfl) (hM.inb _ (.head _) g rfl).1 (by rw [e1]; omega) (by rw [e1]; exact (hM.ownLe (k := 0) rfl).1) (by rw [e2]; show (Lib.join (X.map Lib.itoa) [32]).length ≤ _; omega)
  rw [e1, e2] at h
  exact h
theorem okX_bd {X : List Int} (h : ∀ k, k < X.length → 0 ≤ X.getD k 0 ∧ X.getD k 0 ≤ 999) : ∀ x ∈ X, bd64 x := fun x hx => by
  obtain ⟨j, hj, rfl⟩ := List.getElem_of_mem hx
  have := h j hj
  rw [show X.getD j 0 = X[j] by simp [List.getD, hj]] at this
  unfold bd64; omega
theorem itoa_l {n : Int} (h : -9223372036854775808 ≤ n ∧ n ≤ 9223372036854775807) : (Lib.itoa n).length ≤ 21 := by rw [← size_mk]; exact itoa_len h
set_option maxRecDepth 100000 in
set_option maxHeartbeats 400000 in
theorem right30 (v : Int) (hv : bd64 v) (ax : Option Addr) (X : List Int) (cx : Nat) (T : List UInt8) (hTl : T.length ≤ 2000000) (w : World) (hx : IntSl w (.slice ax X.length cx) X) :
  Calls Tryd.prog 16 #[.agg #[.int .i64 v, .slice ax X.length cx, .string ((bs T))]] w fun e w' => ∃ b, e = .returned (.bool b) ∧ (b = true ↔ frmC (⟨v, X, bs T⟩ : Crt)) ∧ Below w.heap.size w w' := by
 have hbs := Below.refl (B := w.heap.size) w
 have hv1 := hv.1
 have hv2 := hv.2
 have hlX := hx.lenB
 have hTs : (bs T).size = T.length := bs_size T
 have hM := Mem.start w
 refine Calls.of_ends (vs := [.agg #[.int .i64 v, .slice ax X.length cx, .string ((bs T))]]) Tryd.func16 rfl Tryd.ntmps16 rfl ?_
 intro a hA
 replace hA : St 45 [(0, _)] a := hA
 refine Ends.seq (Ends.region ?_)
 refine S.box hA hM rfl rfl ?_; clear hA hM a; intro b1 w1 hb2 hM a hA
 replace hM : Mem _ _ [pt b1 #[.int .i64 v, .slice ax X.length cx, .string ((bs T))] 26] _ := hM
 refine S.val hA (R.assign rfl) rfl ?_; clear hA a; intro a hA
 refine S.done ?_
 refine Ends.seq (Ends.seq ?_)
 refine Ends.cut (fun (a : Act) (wv : World) => St 45 [(1, .pointer (some ⟨b1, 0, none⟩)), (24, .bool (decide (((¬ (0 ≤ v ∧ v ≤ 1125899906842624) ∨ ¬ (1 ≤ (X.length : Int) ∧ (X.length : Int) ≤ 64)) ∨ ¬ (1 ≤ (((bs T)).size : Int) ∧ (((bs T)).size : Int) ≤ 1048576)))))] a ∧ Mem w nof [pt b1 #[.int .i64 v, .slice ax X.length cx, .string ((bs T))] 26] wv) ?_ (fun k2 hJ => ?_)
 ·
  clear hA hM a; rintro a w2 ⟨hA, hM⟩
  refine Ends.ite hA rfl (fun hc3 => ?_) (fun hc3 => ?_)
  ·
   have hno : ¬ frmC (⟨v, X, bs T⟩ : Crt) := fun h9 => by obtain ⟨g1, g2, g3, g4, g5, g6, -⟩ := h9; replace g1 : 0 ≤ v := g1; replace g2 : v ≤ 1125899906842624 := g2; replace g3 : 1 ≤ X.length := g3; replace g4 : X.length ≤ 64 := g4; replace g5 : 1 ≤ (bs T).size := g5; replace g6 : (bs T).size ≤ 1048576 := g6; omega
   refine Ends.seq (Ends.region ?_)
   refine S.val hA (R.assign rfl) rfl ?_; clear hA a; intro a hA
   refine S.done ?_
   refine Ends.ret1 Tryd.func16 Tryd.results16 hA rfl ?_
   exact ⟨false, rfl, ⟨fun h9 => (by cases h9), fun h9 => absurd h9 hno⟩, Mem.trans0 hbs hM.nilL⟩
  ·
   refine Ends.skip (Ends.seq (Ends.seq (Ends.region ?_)))
   refine S.val hA (R.fieldAddr (q := 1) fi26_1 rfl rfl rfl) rfl ?_; clear hA a; intro a hA
   refine S.val hA (R.load sz22 rfl (hM.cell (k := 0) rfl rfl)) rfl ?_; clear hA a; intro a hA
   refine S.val hA (R.lenS Tryd.underlying22 rfl rfl) rfl ?_; clear hA a; intro a hA
   refine S.val hA (R.move rfl) rfl ?_; clear hA a; intro a hA
   refine S.done ?_
   refine Ends.block ?_
   refine Ends.loop (σ := Nat) (fun k (a : Act) (wv : World) => St 45 [(1, .pointer (some ⟨b1, 0, none⟩)), (26, .slice ax X.length cx), (27, .int .i64 ((X.length : Int))), (28, .int .i64 ((k : Int)))] a ∧ Mem w nof [pt b1 #[.int .i64 v, .slice ax X.length cx, .string ((bs T))] 26] wv ∧ (k ≤ X.length) ∧ (∀ i, i < k → 0 ≤ X.getD i 0 ∧ X.getD i 0 ≤ 999)) (fun k => X.length - k) 0 ⟨hA.sub ((.cons rfl (.cons rfl (.cons rfl (.cons rfl .nil))))), hM, (Nat.zero_le _), (fun i hi => absurd hi (Nat.not_lt_zero i))⟩ ?_
   clear hA hM a
   rintro k a w3 ⟨hA, hM, hk, hin⟩ hNext
   refine Ends.seq (Ends.region ?_)
   refine S.val hA (R.lss rfl rfl) rfl ?_; clear hA a; intro a hA
   refine S.done ?_
   refine Ends.seq ?_
   refine Ends.ite hA rfl (fun hc4 => ?_) (fun hc4 => ?_)
   ·
    refine Ends.skip (Ends.seq (Ends.block (Ends.seq (Ends.region ?_))))
    refine S.val hA (R.idxI hx (j := k) sl22 rfl rfl (by omega) (rfl)) rfl ?_; clear hA a; intro a hA
    refine S.val hA (R.loadI (hx.mem hM) sz3 rfl (by omega)) rfl ?_; clear hA a; intro a hA
    refine S.val hA (R.assign rfl) rfl ?_; clear hA a; intro a hA
    refine S.done ?_
    refine Ends.seq (Ends.region ?_)
    refine S.val hA (R.move rfl) rfl ?_; clear hA a; intro a hA
    refine S.call hA (R.callF Tryd.func26 rfl rfl rfl) rfl (within30 (X.getD k 0) 0 999 _) ?_; clear hA a
    rintro e w4 ⟨rfl, hb⟩
    replace hM := hM.callB hb; clear hb
    refine ⟨.bool (decide (0 ≤ X.getD k 0 ∧ X.getD k 0 ≤ 999)), rfl, fun a hA => ?_⟩
    refine S.val hA (R.notD rfl) rfl ?_; clear hA a; intro a hA
    refine S.done ?_
    replace hA : St 45 [(1, _), (26, _), (27, _), (28, _), (34, _)] a := hA.sub ((.cons rfl (.cons rfl (.cons rfl (.cons rfl (.cons rfl .nil))))))
    refine Ends.ite hA rfl (fun hc5 => ?_) (fun hc5 => ?_)
    ·
     have hno : ¬ frmC (⟨v, X, bs T⟩ : Crt) := fun h9 => hc5 (h9.2.2.2.2.2.2.1 k (by show k < X.length; omega))
     refine Ends.seq (Ends.region ?_)
     refine S.val hA (R.assign rfl) rfl ?_; clear hA a; intro a hA
     refine S.done ?_
     refine Ends.ret1 Tryd.func16 Tryd.results16 hA rfl ?_
     exact ⟨false, rfl, ⟨fun h9 => (by cases h9), fun h9 => absurd h9 hno⟩, Mem.trans0 hbs hM.nilL⟩
    ·
     refine Ends.skip (Ends.inBlock (Ends.region ?_))
     refine S.val hA (R.addI rfl rfl (r := ((k : Int)) + 1) rfl (by omega)) rfl ?_; clear hA a; intro a hA
     refine S.val hA (R.move rfl) rfl ?_; clear hA a; intro a hA
     refine S.done ?_
     exact hNext ((k + 1)) _ _ ((by show X.length - (k + 1) < X.length - k; omega)) ⟨hA.sub ((.cons rfl (.cons rfl (.cons rfl (.cons rfl .nil))))), hM, (by omega), (fun i hi => by rcases Nat.lt_or_ge i k with g | g; exact hin i g; have e : i = k := (by omega); rw [e]; exact Decidable.not_not.1 hc5)⟩
   ·
    have hke : k = X.length := by omega
    refine Ends.exit rfl ?_
    replace hA : St 45 [(1, _)] a := hA.sub ((.cons rfl .nil))
    refine Ends.seq (Ends.seq (Ends.region ?_))
    refine S.val hA (R.fieldAddr (q := 2) fi26_2 rfl rfl rfl) rfl ?_; clear hA a; intro a hA
    refine S.val hA (R.load sz9 rfl (hM.cell (k := 0) rfl rfl)) rfl ?_; clear hA a; intro a hA
    refine S.rangeS hA hM Tryd.underlying9 rfl rfl ?_; clear hA hM a; intro b6 w5 hb7 hM a hA
    replace hM : Mem _ _ [itC b6 ((bs T)) 0, pt b1 #[.int .i64 v, .slice ax X.length cx, .string ((bs T))] 26] _ := hM
    refine S.done ?_
    refine Ends.block ?_
    refine Ends.loop (σ := Nat) (fun j (a : Act) (wv : World) => St 45 [(38, .pointer (some ⟨b6, 0, none⟩))] a ∧ Mem w nof [itC b6 ((bs T)) j, pt b1 #[.int .i64 v, .slice ax X.length cx, .string ((bs T))] 26] wv ∧ (j ≤ (bs T).size) ∧ (∀ i, i < j → isT (byt (bs T) i))) (fun j => (bs T).size - j) 0 ⟨hA.sub ((.cons rfl .nil)), hM, (Nat.zero_le _), (fun i hi => absurd hi (Nat.not_lt_zero i))⟩ ?_
    clear hA hM a
    rintro j a w6 ⟨hA, hM, hj, hit⟩ hNext1
    refine Ends.seq (Ends.region ?_)
    by_cases hp8 : j < ((bs T)).size
    ·
     refine S.nextT (k := 0) hA hM rfl rfl hp8 rfl ?_; clear hA hM a; intro w7 hM a hA
     replace hM : Mem _ _ [itC b6 ((bs T)) ((j + (Utf8.decode ((bs T)) j).2)), pt b1 #[.int .i64 v, .slice ax X.length cx, .string ((bs T))] 26] _ := hM
     refine S.val hA (R.extract (v := .bool true) rfl rfl) rfl ?_; clear hA a; intro a hA
     refine S.done ?_
     refine Ends.seq ?_
     refine Ends.condT hA rfl ?_
     refine Ends.skip (Ends.block (Ends.seq (Ends.region ?_)))
     refine S.val hA (R.extract (v := .int .i32 (((Utf8.decode ((bs T)) j).1 : Int))) rfl rfl) rfl ?_; clear hA a; intro a hA
     refine S.val hA (R.assign rfl) rfl ?_; clear hA a; intro a hA
     refine S.done ?_
     refine Ends.seq (Ends.region ?_)
     refine S.val hA (R.move rfl) rfl ?_; clear hA a; intro a hA
     refine S.call hA (R.callF Tryd.func27 rfl rfl rfl) rfl (letter30 (((Utf8.decode ((bs T)) j).1 : Int)) _) ?_; clear hA a
     rintro e w8 ⟨rfl, hb⟩
     replace hM := hM.callB hb; clear hb
     refine ⟨.bool (decide (isT (((Utf8.decode ((bs T)) j).1 : Int)))), rfl, fun a hA => ?_⟩
     refine S.val hA (R.notD rfl) rfl ?_; clear hA a; intro a hA
     refine S.done ?_
     replace hA : St 45 [(38, _), (44, _)] a := hA.sub ((.cons rfl (.cons rfl .nil)))
     refine Ends.ite hA rfl (fun hc9 => ?_) (fun hc9 => ?_)
     ·
      have hno : ¬ frmC (⟨v, X, bs T⟩ : Crt) := fun h9 => hc9 ((dec_let hp8).1.2 (h9.2.2.2.2.2.2.2 j hp8))
      refine Ends.seq (Ends.region ?_)
      refine S.val hA (R.assign rfl) rfl ?_; clear hA a; intro a hA
      refine S.done ?_
      refine Ends.ret1 Tryd.func16 Tryd.results16 hA rfl ?_
      exact ⟨false, rfl, ⟨fun h9 => (by cases h9), fun h9 => absurd h9 hno⟩, Mem.trans0 hbs hM.nilL⟩
     ·
      refine Ends.skip (Ends.inBlock ?_)
      have hle9 : isT (byt (bs T) j) := (dec_let hp8).1.1 (Decidable.not_not.1 hc9)
      rw [(dec_let hp8).2 hle9] at hM
      exact hNext1 ((j + 1)) _ _ ((by show (bs T).size - (j + 1) < (bs T).size - j; omega)) ⟨hA.sub ((.cons rfl .nil)), hM, (by omega), (fun i hi => by rcases Nat.lt_or_ge i j with g | g; exact hit i g; have e : i = j := (by omega); rw [e]; exact hle9)⟩
    ·
     refine S.val hA (R.nextF (k := 0) hM rfl rfl hp8) rfl ?_; clear hA a; intro a hA
     refine S.val hA (R.extract (v := .bool false) rfl rfl) rfl ?_; clear hA a; intro a hA
     refine S.done ?_
     refine Ends.seq ?_
     refine Ends.condF hA rfl ?_
     refine Ends.exit rfl ?_
     refine Ends.seq (Ends.region ?_)
     refine S.val hA (R.assign rfl) rfl ?_; clear hA a; intro a hA
     refine S.done ?_
     refine Ends.ret1 Tryd.func16 Tryd.results16 hA rfl ?_
     have hje : j = (bs T).size := by have h9 := hp8; omega
     have hyes : frmC (⟨v, X, bs T⟩ : Crt) := ⟨by show 0 ≤ v; omega, by show v ≤ 1125899906842624; omega, by show 1 ≤ X.length; omega, by show X.length ≤ 64; omega, by show 1 ≤ (bs T).size; omega, by show (bs T).size ≤ 1048576; omega, fun i hi => hin i (by rw [hke]; exact hi), fun i hi => hit i (by rw [hje]; exact hi)⟩
     exact ⟨true, rfl, ⟨fun _ => hyes, fun _ => rfl⟩, Mem.trans0 hbs hM.nilL⟩
 ·
  refine Ends.region ?_
  refine S.val hA (R.fieldAddr (q := 0) fi26_0 rfl rfl rfl) rfl ?_; clear hA a; intro a hA
  refine S.val hA (R.load sz3 rfl (hM.cell (k := 0) rfl rfl)) rfl ?_; clear hA a; intro a hA
  refine S.call hA (R.callF Tryd.func26 rfl rfl rfl) rfl (within30 v 0 1125899906842624 _) ?_; clear hA a
  rintro e w9 ⟨rfl, hb⟩
  replace hM := hM.callB hb; clear hb
  refine ⟨.bool (decide (0 ≤ v ∧ v ≤ 1125899906842624)), rfl, fun a hA => ?_⟩
  refine S.val hA (R.notD rfl) rfl ?_; clear hA a; intro a hA
  refine S.val hA (R.move rfl) rfl ?_; clear hA a; intro a hA
  refine hA.split (d := 11) rfl ?_ ?_
  ·
   clear hA; intro hg10 hA
   refine S.no (dj := 11) hA (by kernel_rfl) rfl rfl rfl ?_; clear hA a; intro a hA
   refine S.no (dj := 11) hA (by kernel_rfl) rfl rfl rfl ?_; clear hA a; intro a hA
   refine S.no (dj := 11) hA (by kernel_rfl) rfl rfl rfl ?_; clear hA a; intro a hA
   refine S.no (dj := 11) hA (by kernel_rfl) rfl rfl rfl ?_; clear hA a; intro a hA
   refine S.no (dj := 11) hA (by kernel_rfl) rfl rfl rfl ?_; clear hA a; intro a hA
   refine S.val hA (R.pickT rfl rfl) rfl ?_; clear hA a; intro a hA
   refine S.val hA (R.move rfl) rfl ?_; clear hA a; intro a hA
   refine S.no (dj := 18) hA (by kernel_rfl) rfl rfl rfl ?_; clear hA a; intro a hA
   refine S.no (dj := 18) hA (by kernel_rfl) rfl rfl rfl ?_; clear hA a; intro a hA
   refine S.no (dj := 18) hA (by kernel_rfl) rfl rfl rfl ?_; clear hA a; intro a hA
   refine S.no (dj := 18) hA (by kernel_rfl) rfl rfl rfl ?_; clear hA a; intro a hA
   refine S.no (dj := 18) hA (by kernel_rfl) rfl rfl rfl ?_; clear hA a; intro a hA
   refine S.val hA (R.pickT rfl rfl) rfl ?_; clear hA a; intro a hA
   refine S.done ?_
   replace hA : St 45 [(1, _), (24, _)] a := hA.sub ((.cons rfl (.cons rfl .nil)))
   exact hJ _ _ ⟨hA.sub (.cons rfl (.cons (by first | rfl | exact congrArg (fun b => some (Value.bool b)) (by first | exact decide_eq_decide.2 (by omega) | exact or_bool (by omega) | exact and_bool (by omega) | (simp; done) | (simp [hg10]; done) | (have h80 := hg10; (try simp at h80); simp [h80]; done) | exact (decide_eq_false (fun h9 => hg10 h9.1)).symm)) .nil)), hM⟩
  ·
   clear hA; intro hg10 hA
   refine S.valg (dj := 11) hA (by kernel_rfl) rfl (R.fieldAddr (q := 1) fi26_1 rfl rfl rfl) rfl ?_; clear hA a; intro a hA
   refine S.valg (dj := 11) hA (by kernel_rfl) rfl (R.load sz22 rfl (hM.cell (k := 0) rfl rfl)) rfl ?_; clear hA a; intro a hA
   refine S.valg (dj := 11) hA (by kernel_rfl) rfl (R.lenS Tryd.underlying22 rfl rfl) rfl ?_; clear hA a; intro a hA
   refine S.callg (dj := 11) hA (by kernel_rfl) rfl (R.callF Tryd.func26 rfl rfl rfl) rfl (within30 ((X.length : Int)) 1 64 _) ?_; clear hA a
   rintro e w10 ⟨rfl, hb⟩
   replace hM := hM.callB hb; clear hb
   refine ⟨.bool (decide (1 ≤ (X.length : Int) ∧ (X.length : Int) ≤ 64)), rfl, fun a hA => ?_⟩
   refine S.valg (dj := 11) hA (by kernel_rfl) rfl (R.notD rfl) rfl ?_; clear hA a; intro a hA
   refine S.val hA (R.pickF rfl rfl) rfl ?_; clear hA a; intro a hA
   refine S.val hA (R.move rfl) rfl ?_; clear hA a; intro a hA
   refine hA.split (d := 18) rfl ?_ ?_
   ·
    clear hA; intro hg11 hA
    refine S.no (dj := 18) hA (by kernel_rfl) rfl rfl rfl ?_; clear hA a; intro a hA
    refine S.no (dj := 18) hA (by kernel_rfl) rfl rfl rfl ?_; clear hA a; intro a hA
    refine S.no (dj := 18) hA (by kernel_rfl) rfl rfl rfl ?_; clear hA a; intro a hA
    refine S.no (dj := 18) hA (by kernel_rfl) rfl rfl rfl ?_; clear hA a; intro a hA
    refine S.no (dj := 18) hA (by kernel_rfl) rfl rfl rfl ?_; clear hA a; intro a hA
    refine S.val hA (R.pickT rfl rfl) rfl ?_; clear hA a; intro a hA
    refine S.done ?_
    replace hA : St 45 [(1, _), (24, _)] a := hA.sub ((.cons rfl (.cons rfl .nil)))
    exact hJ _ _ ⟨hA.sub (.cons rfl (.cons (by first | rfl | exact congrArg (fun b => some (Value.bool b)) (by first | exact decide_eq_decide.2 (by omega) | exact or_bool (by omega) | exact and_bool (by omega) | (simp; done) | (simp [hg10, hg11]; done) | (have h80 := hg10; (try simp at h80); have h81 := hg11; (try simp at h81); simp [h80, h81]; done) | exact (decide_eq_false (fun h9 => hg10 h9.1)).symm | exact (decide_eq_false (fun h9 => hg11 h9.1)).symm)) .nil)), hM⟩
   ·
    clear hA; intro hg11 hA
    refine S.valg (dj := 18) hA (by kernel_rfl) rfl (R.fieldAddr (q := 2) fi26_2 rfl rfl rfl) rfl ?_; clear hA a; intro a hA
    refine S.valg (dj := 18) hA (by kernel_rfl) rfl (R.load sz9 rfl (hM.cell (k := 0) rfl rfl)) rfl ?_; clear hA a; intro a hA
    refine S.valg (dj := 18) hA (by kernel_rfl) rfl (R.lenStr Tryd.underlying9 rfl rfl) rfl ?_; clear hA a; intro a hA
    refine S.callg (dj := 18) hA (by kernel_rfl) rfl (R.callF Tryd.func26 rfl rfl rfl) rfl (within30 ((((bs T)).size : Int)) 1 1048576 _) ?_; clear hA a
    rintro e w11 ⟨rfl, hb⟩
    replace hM := hM.callB hb; clear hb
    refine ⟨.bool (decide (1 ≤ (((bs T)).size : Int) ∧ (((bs T)).size : Int) ≤ 1048576)), rfl, fun a hA => ?_⟩
    refine S.valg (dj := 18) hA (by kernel_rfl) rfl (R.notD rfl) rfl ?_; clear hA a; intro a hA
    refine S.val hA (R.pickF rfl rfl) rfl ?_; clear hA a; intro a hA
    refine S.done ?_
    replace hA : St 45 [(1, _), (24, _)] a := hA.sub ((.cons rfl (.cons rfl .nil)))
    exact hJ _ _ ⟨hA.sub (.cons rfl (.cons (by first | rfl | exact congrArg (fun b => some (Value.bool b)) (by first | exact decide_eq_decide.2 (by omega) | exact or_bool (by omega) | exact and_bool (by omega) | (simp; done) | (simp [hg10, hg11]; done) | (have h80 := hg10; (try simp at h80); have h81 := hg11; (try simp at h81); simp [h80, h81]; done) | exact (decide_eq_false (fun h9 => hg10 h9.1)).symm | exact (decide_eq_false (fun h9 => hg11 h9.1)).symm)) .nil)), hM⟩
set_option maxRecDepth 100000 in
set_option maxHeartbeats 400000 in
theorem cwrite30 (v : Int) (hv : bd64 v) (ax : Option Addr) (X : List Int) (cx : Nat) (T : List UInt8) (hTl : T.length ≤ 2000000) (w : World) (hx : IntSl w (.slice ax X.length cx) X) (htab : Lib.TabIs Tryd.prog w "internal/strconv.uint64pow10" .u64 Lib.pow10Tab) :
  Calls Tryd.prog 9 #[.agg #[.int .i64 v, .slice ax X.length cx, .string ((bs T))]] w fun e w' => ∃ L er, e = .returned (.tuple #[.string (bs L), .int .i64 er]) ∧ wrP (⟨v, X, bs T⟩ : Crt) L er ∧ Below w.heap.size w w' := by
 have hbs := Below.refl (B := w.heap.size) w
 have hv1 := hv.1
 have hv2 := hv.2
 have hlX := hx.lenB
 have hTs : (bs T).size = T.length := bs_size T
 have hM := Mem.start w
 refine Calls.of_ends (vs := [.agg #[.int .i64 v, .slice ax X.length cx, .string ((bs T))]]) Tryd.func9 rfl Tryd.ntmps9 rfl ?_
 intro a hA
 replace hA : St 44 [(0, _)] a := hA
 refine Ends.seq (Ends.region ?_)
 refine S.box hA hM rfl rfl ?_; clear hA hM a; intro b1 w1 hb2 hM a hA
 replace hM : Mem _ _ [pt b1 #[.int .i64 v, .slice ax X.length cx, .string ((bs T))] 26] _ := hM
 refine S.val hA (R.assign rfl) rfl ?_; clear hA a; intro a hA
 refine S.val hA (R.assign rfl) rfl ?_; clear hA a; intro a hA
 refine S.done ?_
 refine Ends.seq (Ends.seq (Ends.region ?_))
 refine S.val hA (R.loadA sz26 rfl (hM.range (k := 0) rfl) rfl) rfl ?_; clear hA a; intro a hA
 refine S.call hA (R.callF Tryd.func16 rfl rfl rfl) rfl (right30 v hv ax X cx T hTl _ (hx.mem hM)) ?_; clear hA a
 rintro e w2 ⟨b9, rfl, hb9, hb⟩
 replace hM := hM.callB hb; clear hb
 refine ⟨.bool b9, rfl, fun a hA => ?_⟩
 refine S.val hA (R.not rfl) rfl ?_; clear hA a; intro a hA
 refine S.done ?_
 replace hA : St 44 [(1, _), (10, _)] a := hA.sub ((.cons rfl (.cons rfl .nil)))
 refine Ends.iteB hA rfl (fun hc3 => ?_) (fun hc3 => ?_)
 ·
  have hno : ¬ frmC (⟨v, X, bs T⟩ : Crt) := fun h9 => by have h8 := hb9.2 h9; rw [h8] at hc3; exact absurd hc3 (by decide)
  refine Ends.seq (Ends.region ?_)
  refine S.val hA (R.assign rfl) rfl ?_; clear hA a; intro a hA
  refine S.val hA (R.assign rfl) rfl ?_; clear hA a; intro a hA
  refine S.done ?_
  refine Ends.ret2 Tryd.func9 Tryd.results9 hA rfl rfl ?_
  exact ⟨[], 8, rfl, .inr ⟨hno, rfl, rfl⟩, Mem.trans0 hbs hM.nilL⟩
 ·
  have hyes : frmC (⟨v, X, bs T⟩ : Crt) := hb9.1 (by revert hc3; cases b9 <;> decide)
  have hbx := okX_bd hyes.2.2.2.2.2.2.1
  have k1 : 0 ≤ v := hyes.1
  have k2 : v ≤ 1125899906842624 := hyes.2.1
  have k3 : 1 ≤ X.length := hyes.2.2.1
  have k4 : X.length ≤ 64 := hyes.2.2.2.1
  have hjl : (Lib.join (X.map Lib.itoa) [32]).length ≤ 22 * X.length := join_len hbx
  refine Ends.skip (Ends.seq (Ends.region ?_))
  refine S.val hA (R.assign rfl) rfl ?_; clear hA a; intro a hA
  refine S.done ?_
  refine Ends.seq (Ends.seq (Ends.region ?_))
  refine S.val hA (R.fieldAddr (q := 1) fi26_1 rfl rfl rfl) rfl ?_; clear hA a; intro a hA
  refine S.val hA (R.load sz22 rfl (hM.cell (k := 0) rfl rfl)) rfl ?_; clear hA a; intro a hA
  refine S.val hA (R.lenS Tryd.underlying22 rfl rfl) rfl ?_; clear hA a; intro a hA
  refine S.val hA (R.move rfl) rfl ?_; clear hA a; intro a hA
  refine S.done ?_
  refine Ends.block ?_
  replace hM := hM.ownNil 9 1
  replace hM : Mem _ _ [own 9 1 (.slice none 0 0) 0 (((X.take 0).map svC)), pt b1 #[.int .i64 v, .slice ax X.length cx, .string ((bs T))] 26] _ := hM
  refine Ends.loop (σ := Nat × Option Addr × Nat) (fun (k, ao, co) (a : Act) (wv : World) => St 44 [(1, .pointer (some ⟨b1, 0, none⟩)), (4, .slice ao k co), (12, .slice ax X.length cx), (13, .int .i64 ((X.length : Int))), (14, .int .i64 ((k : Int)))] a ∧ Mem w nof [own 9 1 (.slice ao k co) k (((X.take k).map svC)), pt b1 #[.int .i64 v, .slice ax X.length cx, .string ((bs T))] 26] wv ∧ (k ≤ X.length)) (fun (k, ao, co) => X.length - k) ((0, none, 0)) ⟨hA.sub ((.cons rfl (.cons rfl (.cons rfl (.cons rfl (.cons rfl .nil)))))), hM, (Nat.zero_le _)⟩ ?_
  clear hA hM a
  rintro ⟨k, ao, co⟩ a w3 ⟨hA, hM, hk⟩ hNext
  refine Ends.seq (Ends.region ?_)
  refine S.val hA (R.lss rfl rfl) rfl ?_; clear hA a; intro a hA
  refine S.done ?_
  refine Ends.seq ?_
  refine Ends.ite hA rfl (fun hc4 => ?_) (fun hc4 => ?_)
  ·
   have hxk := hyes.2.2.2.2.2.2.1 k (by show k < X.length; omega)
   replace hxk : 0 ≤ X.getD k 0 ∧ X.getD k 0 ≤ 999 := hxk
   refine Ends.skip (Ends.seq (Ends.block (Ends.seq (Ends.region ?_))))
   refine S.val hA (R.idxI hx (j := k) sl22 rfl rfl (by omega) (rfl)) rfl ?_; clear hA a; intro a hA
   refine S.val hA (R.loadI (hx.mem hM) sz3 rfl (by omega)) rfl ?_; clear hA a; intro a hA
   refine S.val hA (R.assign rfl) rfl ?_; clear hA a; intro a hA
   refine S.done ?_
   refine Ends.region ?_
   refine S.val hA (R.move rfl) rfl ?_; clear hA a; intro a hA
   refine S.val hA (R.move rfl) rfl ?_; clear hA a; intro a hA
   have hil2 := itoa_l (n := X.getD k 0) (by omega)
   refine S.call hA (R.callF Tryd.func17 rfl rfl rfl) rfl (write_any (X.getD k 0) (by omega) _ (tab_below htab (Mem.trans0 hbs hM.nilL))) ?_; clear hA a
   rintro e w4 ⟨rfl, hb⟩
   replace hM := hM.callB hb; clear hb
   refine ⟨.string ((bs (Lib.itoa (X.getD k 0)))), rfl, fun a hA => ?_⟩
   refine S.buildSl (cells := #[.string ((bs (Lib.itoa (X.getD k 0))))]) hA hM Tryd.underlying45 info9 rfl rfl rfl rfl (by kernel_rfl) rfl ?_; clear hA hM a; intro b5 w5 hb6 hM a hA
   replace hM : Mem _ _ [pt b5 #[.string ((bs (Lib.itoa (X.getD k 0))))] 9, own 9 1 (.slice ao k co) k (((X.take k).map svC)), pt b1 #[.int .i64 v, .slice ax X.length cx, .string ((bs T))] 26] _ := hM
   refine S.append (k := 1) (k2 := 0) hA hM rfl rfl Tryd.underlying45 info9 rfl rfl rfl rfl rfl rfl rfl rfl rfl (by first | omega | (unfold maxLen; omega) | (show (_ + 1) * 16 ≤ (140737488355328 : Nat); omega)) (by first | omega | (unfold maxLen; omega) | (show (_ + 1) * 16 ≤ (140737488355328 : Nat); omega)) rfl ?_; clear hA hM a; intro a7 c8 w6 hM a hA
   replace hM : Mem _ _ [pt b5 #[.string ((bs (Lib.itoa (X.getD k 0))))] 9, own 9 1 (.slice a7 (k + 1) c8) (k + 1) ((((X.take k).map svC) ++ [.string ((bs (Lib.itoa (X.getD k 0))))])), pt b1 #[.int .i64 v, .slice ax X.length cx, .string ((bs T))] 26] _ := hM
   replace hM := hM.drop 0
   replace hM : Mem _ _ [own 9 1 (.slice a7 (k + 1) c8) (k + 1) ((((X.take k).map svC) ++ [.string ((bs (Lib.itoa (X.getD k 0))))])), pt b1 #[.int .i64 v, .slice ax X.length cx, .string ((bs T))] 26] _ := hM
   refine S.val hA (R.assign rfl) rfl ?_; clear hA a; intro a hA
   refine S.done ?_
   replace hA : St 44 [(1, _), (4, _), (12, _), (13, _), (14, _)] a := hA.sub ((.cons rfl (.cons rfl (.cons rfl (.cons rfl (.cons rfl .nil))))))
   refine Ends.inBlock (Ends.region ?_)
   refine S.val hA (R.addI rfl rfl (r := ((k : Int)) + 1) rfl (by omega)) rfl ?_; clear hA a; intro a hA
   refine S.val hA (R.move rfl) rfl ?_; clear hA a; intro a hA
   refine S.done ?_
   replace hM := hM.front (k := 1) rfl
   replace hM := hM.front (k := 1) rfl
   replace hM := hM.firstN 2
   rw [svC_snoc (by omega)] at hM
   exact hNext ((k + 1, a7, c8)) _ _ ((by show X.length - (k + 1) < X.length - k; omega)) ⟨hA.sub ((.cons rfl (.cons rfl (.cons rfl (.cons rfl (.cons rfl .nil)))))), hM, (by omega)⟩
  ·
   obtain rfl : k = X.length := by omega
   rw [List.take_length] at hM
   refine Ends.exit rfl ?_
   refine Ends.seq ?_
   refine Ends.drawn (Mem w nof [own 9 1 (.slice ao X.length co) X.length ((X.map svC)), pt b1 #[.int .i64 v, .slice ax X.length cx, .string ((bs T))] 26]) (.cons (0, true) (.cons (1, true) (.cons (5, true) (.cons (6, true) (.cons (7, true) (.cons (2, false) (.cons (3, true) (.cons (4, true) (.cons (8, false) (.cons (9, true) (.cons (10, true) (.cons (11, true) .nil)))))))))))) 12 mixed (by kernel_rfl) (by kernel_rfl) (by kernel_rfl) hM.drew ?_
   replace hM := hM.drew
   refine D.valF hA rfl (fun _ => R.fieldAddr (q := 0) fi26_0 rfl rfl rfl) rfl ?_; clear hA a; intro a hA
   refine D.val hA rfl (by kernel_rfl) (fun _ hM => R.load sz3 rfl (hM.cell (k := 1) rfl rfl)) rfl ?_; clear hA a; intro a hA
   refine D.valF hA rfl (fun _ => R.fieldAddr (q := 1) fi26_1 rfl rfl rfl) rfl ?_; clear hA a; intro a hA
   refine D.val hA rfl (by kernel_rfl) (fun _ hM => R.load sz22 rfl (hM.cell (k := 1) rfl rfl)) rfl ?_; clear hA a; intro a hA
   refine D.valF hA rfl (fun _ => R.lenS Tryd.underlying22 rfl rfl) rfl ?_; clear hA a; intro a hA
   have hil2 := itoa_l (n := v) (by omega)
   refine D.call hA rfl (R.callF Tryd.func17 rfl rfl rfl) rfl (write_any v (by omega) _ (tab_below htab (Mem.trans0 hbs hM.nilL))) ?_; clear hA a
   rintro e w7 ⟨rfl, hb⟩
   replace hM := hM.callB hb; clear hb
   refine ⟨.string ((bs (Lib.itoa v))), rfl, hM, fun a hA => ?_⟩
   refine D.valF hA rfl (fun _ => R.to (v := .string (bs (([67, 69, 82, 84, 32] : List UInt8) ++ Lib.itoa v))) (R.addS rfl rfl (by show (bs (([67, 69, 82, 84, 32] : List UInt8))).size + (bs (Lib.itoa v)).size ≤ _; simp only [bs_size, List.length_append, List.length_cons, List.length_nil]; omega)) (congrArg Value.string (bs_app (([67, 69, 82, 84, 32] : List UInt8)) (Lib.itoa v)))) rfl ?_; clear hA a; intro a hA
   refine D.valF hA rfl (fun _ => R.to (v := .string (bs ((([67, 69, 82, 84, 32] : List UInt8) ++ Lib.itoa v) ++ ([32] : List UInt8)))) (R.addS rfl rfl (by show (bs ((([67, 69, 82, 84, 32] : List UInt8) ++ Lib.itoa v))).size + (bs (([32] : List UInt8))).size ≤ _; simp only [bs_size, List.length_append, List.length_cons, List.length_nil]; omega)) (congrArg Value.string (bs_app ((([67, 69, 82, 84, 32] : List UInt8) ++ Lib.itoa v)) (([32] : List UInt8))))) rfl ?_; clear hA a; intro a hA
   have hil8 := itoa_l (n := (X.length : Int)) (by omega)
   refine D.call hA rfl (R.callF Tryd.func17 rfl rfl rfl) rfl (write_any ((X.length : Int)) (by omega) _ (tab_below htab (Mem.trans0 hbs hM.nilL))) ?_; clear hA a
   rintro e w8 ⟨rfl, hb⟩
   replace hM := hM.callB hb; clear hb
   refine ⟨.string ((bs (Lib.itoa ((X.length : Int))))), rfl, hM, fun a hA => ?_⟩
   refine D.valF hA rfl (fun _ => R.to (v := .string (bs (((([67, 69, 82, 84, 32] : List UInt8) ++ Lib.itoa v) ++ ([32] : List UInt8)) ++ Lib.itoa ((X.length : Int))))) (R.addS rfl rfl (by show (bs (((([67, 69, 82, 84, 32] : List UInt8) ++ Lib.itoa v) ++ ([32] : List UInt8)))).size + (bs (Lib.itoa ((X.length : Int)))).size ≤ _; simp only [bs_size, List.length_append, List.length_cons, List.length_nil]; omega)) (congrArg Value.string (bs_app (((([67, 69, 82, 84, 32] : List UInt8) ++ Lib.itoa v) ++ ([32] : List UInt8))) (Lib.itoa ((X.length : Int)))))) rfl ?_; clear hA a; intro a hA
   refine D.valF hA rfl (fun _ => R.to (v := .string (bs ((((([67, 69, 82, 84, 32] : List UInt8) ++ Lib.itoa v) ++ ([32] : List UInt8)) ++ Lib.itoa ((X.length : Int))) ++ ([10] : List UInt8)))) (R.addS rfl rfl (by show (bs ((((([67, 69, 82, 84, 32] : List UInt8) ++ Lib.itoa v) ++ ([32] : List UInt8)) ++ Lib.itoa ((X.length : Int))))).size + (bs (([10] : List UInt8))).size ≤ _; simp only [bs_size, List.length_append, List.length_cons, List.length_nil]; omega)) (congrArg Value.string (bs_app ((((([67, 69, 82, 84, 32] : List UInt8) ++ Lib.itoa v) ++ ([32] : List UInt8)) ++ Lib.itoa ((X.length : Int)))) (([10] : List UInt8))))) rfl ?_; clear hA a; intro a hA
   refine D.valF hA rfl (fun _ => R.assign rfl) rfl ?_; clear hA a; intro a hA
   refine D.done ?_
   replace hA : St 44 [(1, _), (4, _), (7, _)] a := hA.sub ((.cons rfl (.cons rfl (.cons rfl .nil))))
   refine Ends.seq ?_
   refine Ends.drawn (Mem w nof [own 9 1 (.slice ao X.length co) X.length ((X.map svC)), pt b1 #[.int .i64 v, .slice ax X.length cx, .string ((bs T))] 26]) (.cons (0, true) (.cons (1, true) (.cons (5, true) (.cons (6, true) (.cons (2, false) (.cons (3, true) (.cons (4, true) (.cons (7, true) (.cons (8, true) (.cons (9, true) (.cons (10, true) .nil))))))))))) 11 mixed (by kernel_rfl) (by kernel_rfl) (by kernel_rfl) hM.drew ?_
   replace hM := hM.drew
   refine D.valF hA rfl (fun _ => R.move rfl) rfl ?_; clear hA a; intro a hA
   refine D.valF hA rfl (fun _ => R.move rfl) rfl ?_; clear hA a; intro a hA
   refine D.valF hA rfl (fun _ => R.fieldAddr (q := 2) fi26_2 rfl rfl rfl) rfl ?_; clear hA a; intro a hA
   refine D.val hA rfl (by kernel_rfl) (fun _ hM => R.load sz9 rfl (hM.cell (k := 1) rfl rfl)) rfl ?_; clear hA a; intro a hA
   refine D.call hA rfl (R.callF Tryd.func18 rfl rfl rfl) rfl (joinC_any ao X co (by omega) hbx _ hM) ?_; clear hA a
   rintro e w9 ⟨rfl, hb⟩
   replace hM := hM.callB hb; clear hb
   refine ⟨.string ((bs ((Lib.join (X.map Lib.itoa) [32])))), rfl, hM, fun a hA => ?_⟩
   refine D.valF hA rfl (fun _ => R.to (v := .string (bs (((((([67, 69, 82, 84, 32] : List UInt8) ++ Lib.itoa v) ++ ([32] : List UInt8)) ++ Lib.itoa ((X.length : Int))) ++ ([10] : List UInt8)) ++ (Lib.join (X.map Lib.itoa) [32])))) (R.addS rfl rfl (by show (bs (((((([67, 69, 82, 84, 32] : List UInt8) ++ Lib.itoa v) ++ ([32] : List UInt8)) ++ Lib.itoa ((X.length : Int))) ++ ([10] : List UInt8)))).size + (bs ((Lib.join (X.map Lib.itoa) [32]))).size ≤ _; simp only [bs_size, List.length_append, List.length_cons, List.length_nil]; omega)) (congrArg Value.string (bs_app (((((([67, 69, 82, 84, 32] : List UInt8) ++ Lib.itoa v) ++ ([32] : List UInt8)) ++ Lib.itoa ((X.length : Int))) ++ ([10] : List UInt8))) ((Lib.join (X.map Lib.itoa) [32]))))) rfl ?_; clear hA a; intro a hA
   refine D.valF hA rfl (fun _ => R.to (v := .string (bs ((((((([67, 69, 82, 84, 32] : List UInt8) ++ Lib.itoa v) ++ ([32] : List UInt8)) ++ Lib.itoa ((X.length : Int))) ++ ([10] : List UInt8)) ++ (Lib.join (X.map Lib.itoa) [32])) ++ ([10] : List UInt8)))) (R.addS rfl rfl (by show (bs ((((((([67, 69, 82, 84, 32] : List UInt8) ++ Lib.itoa v) ++ ([32] : List UInt8)) ++ Lib.itoa ((X.length : Int))) ++ ([10] : List UInt8)) ++ (Lib.join (X.map Lib.itoa) [32])))).size + (bs (([10] : List UInt8))).size ≤ _; simp only [bs_size, List.length_append, List.length_cons, List.length_nil]; omega)) (congrArg Value.string (bs_app ((((((([67, 69, 82, 84, 32] : List UInt8) ++ Lib.itoa v) ++ ([32] : List UInt8)) ++ Lib.itoa ((X.length : Int))) ++ ([10] : List UInt8)) ++ (Lib.join (X.map Lib.itoa) [32]))) (([10] : List UInt8))))) rfl ?_; clear hA a; intro a hA
   refine D.valF hA rfl (fun _ => R.to (v := .string (bs (((((((([67, 69, 82, 84, 32] : List UInt8) ++ Lib.itoa v) ++ ([32] : List UInt8)) ++ Lib.itoa ((X.length : Int))) ++ ([10] : List UInt8)) ++ (Lib.join (X.map Lib.itoa) [32])) ++ ([10] : List UInt8)) ++ T))) (R.addS rfl rfl (by show (bs (((((((([67, 69, 82, 84, 32] : List UInt8) ++ Lib.itoa v) ++ ([32] : List UInt8)) ++ Lib.itoa ((X.length : Int))) ++ ([10] : List UInt8)) ++ (Lib.join (X.map Lib.itoa) [32])) ++ ([10] : List UInt8)))).size + (bs T).size ≤ _; simp only [bs_size, List.length_append, List.length_cons, List.length_nil]; omega)) (congrArg Value.string (bs_app (((((((([67, 69, 82, 84, 32] : List UInt8) ++ Lib.itoa v) ++ ([32] : List UInt8)) ++ Lib.itoa ((X.length : Int))) ++ ([10] : List UInt8)) ++ (Lib.join (X.map Lib.itoa) [32])) ++ ([10] : List UInt8))) T))) rfl ?_; clear hA a; intro a hA
   refine D.valF hA rfl (fun _ => R.to (v := .string (bs ((((((((([67, 69, 82, 84, 32] : List UInt8) ++ Lib.itoa v) ++ ([32] : List UInt8)) ++ Lib.itoa ((X.length : Int))) ++ ([10] : List UInt8)) ++ (Lib.join (X.map Lib.itoa) [32])) ++ ([10] : List UInt8)) ++ T) ++ ([10] : List UInt8)))) (R.addS rfl rfl (by show (bs ((((((((([67, 69, 82, 84, 32] : List UInt8) ++ Lib.itoa v) ++ ([32] : List UInt8)) ++ Lib.itoa ((X.length : Int))) ++ ([10] : List UInt8)) ++ (Lib.join (X.map Lib.itoa) [32])) ++ ([10] : List UInt8)) ++ T))).size + (bs (([10] : List UInt8))).size ≤ _; simp only [bs_size, List.length_append, List.length_cons, List.length_nil]; omega)) (congrArg Value.string (bs_app ((((((((([67, 69, 82, 84, 32] : List UInt8) ++ Lib.itoa v) ++ ([32] : List UInt8)) ++ Lib.itoa ((X.length : Int))) ++ ([10] : List UInt8)) ++ (Lib.join (X.map Lib.itoa) [32])) ++ ([10] : List UInt8)) ++ T)) (([10] : List UInt8))))) rfl ?_; clear hA a; intro a hA
   refine D.valF hA rfl (fun _ => R.assign rfl) rfl ?_; clear hA a; intro a hA
   refine D.valF hA rfl (fun _ => R.assign rfl) rfl ?_; clear hA a; intro a hA
   refine D.done ?_
   replace hA : St 44 [(2, _), (3, _)] a := hA.sub ((.cons rfl (.cons rfl .nil)))
   refine Ends.ret2 Tryd.func9 Tryd.results9 hA rfl rfl ?_
   have hfin : ((((((((([67, 69, 82, 84, 32] : List UInt8) ++ Lib.itoa v) ++ ([32] : List UInt8)) ++ Lib.itoa ((X.length : Int))) ++ ([10] : List UInt8)) ++ (Lib.join (X.map Lib.itoa) [32])) ++ ([10] : List UInt8)) ++ T) ++ ([10] : List UInt8)) = txtC (⟨v, X, bs T⟩ : Crt) := by unfold txtC headC; simp [bs]
   rw [hfin]
   exact ⟨_, _, rfl, .inl ⟨hyes, rfl, rfl⟩, Mem.trans0 hbs hM.nilL⟩
end Go.Proofs.YtnhnjjlfoajbgaaDoor
namespace Go.Proofs.YtnhnjjlfoajbgaaDoor
open Go.RowKit
def frs (B : Nat) (a : Option Addr) : Prop := ∀ p, a = some p → B ≤ p.block
theorem frs.mono {B C : Nat} {a : Option Addr} (h : frs C a) (hb : B ≤ C) : frs B a := fun p hp => Nat.le_trans hb (h p hp)
end Go.Proofs.YtnhnjjlfoajbgaaDoor
namespace Go.Proofs.YtnhnjjlfoajbgaaDoor
open Go.RowKit
def crtG : Crt := ⟨5, [1, 0], bs [98, 112, 108]⟩
theorem frm_g : frmC crtG := by unfold frmC crtG; decide +kernel
theorem txt_g : txtC crtG = [67, 69, 82, 84, 32, 53, 32, 50, 10, 49, 32, 48, 10, 98, 112, 108, 10] := by decide +kernel
theorem cread_at {s : ByteArray} (hs : s.size ≤ 4611686018427387904) {x y : Int} (h : (rdC s).2 = (x, y)) (w : World) : Calls Tryd.prog 14 #[.string s] w fun e w' => ∃ (g1 : Int) (oa9 : Option Addr) (g2 oc9 : Nat) (g3 : ByteArray), e = .returned (.tuple #[.agg #[.int .i64 g1, .slice oa9 g2 oc9, .string g3], .int .i64 x, .int .i64 y]) ∧ Below w.heap.size w w' := by
  refine (cread30 s hs w).mono fun e w' ⟨oa, oc, he, hM9⟩ => ⟨(rdC s).1.v, oa, (rdC s).1.X.length, oc, (rdC s).1.t, ?_, hM9.below⟩
  have h1 : (rdC s).2.1 = x := congrArg Prod.fst h
  have h2 : (rdC s).2.2 = y := congrArg Prod.snd h
  rw [h1, h2] at he
  exact he
theorem rd_g : (rdC (bs [67, 69, 82, 84, 32, 120])).2 = (5, 4) := by decide +kernel
theorem wr_g {L : List UInt8} {e : Int} (h : wrP crtG L e) : L = [67, 69, 82, 84, 32, 53, 32, 50, 10, 49, 32, 48, 10, 98, 112, 108, 10] ∧ e = 0 := by
  rcases h with ⟨-, h2, h3⟩ | ⟨h1, -, -⟩
  · exact ⟨h2.trans txt_g, h3⟩
  · exact absurd frm_g h1
set_option maxRecDepth 100000 in
set_option maxHeartbeats 400000 in
theorem certs_any  (w : World) (htab : Lib.TabIs Tryd.prog w "internal/strconv.uint64pow10" .u64 Lib.pow10Tab) :
  Calls Tryd.prog 11 #[] w fun e w' => e = .returned (.bool true) ∧ Below w.heap.size w w' := by
 have hbs := Below.refl (B := w.heap.size) w
 have hM := Mem.start w
 refine Calls.of_ends (vs := []) Tryd.func11 rfl Tryd.ntmps11 rfl ?_
 intro a hA
 replace hA : St 31 [] a := hA
 refine Ends.seq (Ends.region ?_)
 refine S.val hA (R.assign rfl) rfl ?_; clear hA a; intro a hA
 refine S.done ?_
 refine Ends.seq (Ends.region ?_)
 refine S.buildSl (cells := #[.int .i64 1, .int .i64 0]) hA hM Tryd.underlying22 info3 rfl rfl rfl rfl (by kernel_rfl) rfl ?_; clear hA hM a; intro b1 w1 hb2 hM a hA
 replace hM : Mem _ _ [pt b1 #[.int .i64 1, .int .i64 0] 3] _ := hM
 refine S.val hA (R.build (cells := #[.int .i64 5, .slice (some ⟨b1, 0, none⟩) 2 2, .string (⟨#[98, 112, 108]⟩)]) rfl (by kernel_rfl)) rfl ?_; clear hA a; intro a hA
 have hq9 := hM.ptRs (k := 0) (X := ([1, 0] : List Int)) rfl (by decide)
 refine S.call hA (R.callF Tryd.func9 rfl rfl rfl) rfl (cwrite30 5 (by unfold bd64; decide) (some ⟨b1, 0, none⟩) [1, 0] 2 [98, 112, 108] (by decide) _ hq9 (tab_below htab (Mem.trans0 hbs hM.nilL))) ?_; clear hA a
 rintro e w2 ⟨L9, e9, rfl, hw9, hb⟩
 replace hM := hM.callB hb; clear hb
 obtain ⟨hL9, he9⟩ := wr_g hw9
 subst hL9
 subst he9
 refine ⟨.tuple #[.string ((bs ([67, 69, 82, 84, 32, 53, 32, 50, 10, 49, 32, 48, 10, 98, 112, 108, 10]))), .int .i64 0], rfl, fun a hA => ?_⟩
 refine S.val hA (R.move rfl) rfl ?_; clear hA a; intro a hA
 refine S.val hA (R.extract (v := .string ((bs ([67, 69, 82, 84, 32, 53, 32, 50, 10, 49, 32, 48, 10, 98, 112, 108, 10])))) rfl rfl) rfl ?_; clear hA a; intro a hA
 refine S.val hA (R.extract (v := .int .i64 0) rfl rfl) rfl ?_; clear hA a; intro a hA
 refine S.val hA (R.assign rfl) rfl ?_; clear hA a; intro a hA
 refine S.val hA (R.assign rfl) rfl ?_; clear hA a; intro a hA
 refine S.done ?_
 replace hA : St 31 [(1, _), (2, _)] a := hA.sub ((.cons rfl (.cons rfl .nil)))
 refine Ends.seq (Ends.region ?_)
 refine S.call hA (R.callF Tryd.func14 rfl rfl rfl) rfl (cread_at (s := bs [67, 69, 82, 84, 32, 120]) (by decide) rd_g _) ?_; clear hA a
 rintro e w3 ⟨g1, oa9, g2, oc9, g3, rfl, hb⟩
 replace hM := hM.callB hb; clear hb
 refine ⟨.tuple #[.agg #[.int .i64 g1, .slice oa9 g2 oc9, .string g3], .int .i64 5, .int .i64 4], rfl, fun a hA => ?_⟩
 refine S.val hA (R.move rfl) rfl ?_; clear hA a; intro a hA
 refine S.val hA (R.extract (v := .agg #[.int .i64 g1, .slice oa9 g2 oc9, .string g3]) rfl rfl) rfl ?_; clear hA a; intro a hA
 refine S.val hA (R.extract (v := .int .i64 5) rfl rfl) rfl ?_; clear hA a; intro a hA
 refine S.val hA (R.extract (v := .int .i64 4) rfl rfl) rfl ?_; clear hA a; intro a hA
 refine S.alloc hA hM info26 rfl rfl ?_; clear hA hM a; intro b3 w4 hb4 hM a hA
 replace hM : Mem _ _ [pt b3 #[.int .i64 0, .slice none 0 0, .string (⟨#[]⟩)] 26, pt b1 #[.int .i64 1, .int .i64 0] 3] _ := hM
 refine S.storeA (k := 0) hA hM sz26 rfl rfl rfl rfl rfl rfl ?_; clear hM
 intro w5 hM
 replace hM : Mem _ _ [pt b3 #[.int .i64 g1, .slice oa9 g2 oc9, .string g3] 26, pt b1 #[.int .i64 1, .int .i64 0] 3] _ := hM
 refine S.val hA (R.assign rfl) rfl ?_; clear hA a; intro a hA
 refine S.val hA (R.assign rfl) rfl ?_; clear hA a; intro a hA
 refine S.done ?_
 replace hA : St 31 [(1, _), (2, _), (4, _), (5, _)] a := hA.sub ((.cons rfl (.cons rfl (.cons rfl (.cons rfl .nil)))))
 refine Ends.seq (Ends.region ?_)
 refine S.val hA (R.move rfl) rfl ?_; clear hA a; intro a hA
 refine S.val hA (R.tt (R.eql rfl rfl) (by first | decide | simp | omega)) rfl ?_; clear hA a; intro a hA
 refine S.val hA (R.move rfl) rfl ?_; clear hA a; intro a hA
 refine S.valg (dj := 19) hA (by kernel_rfl) rfl (R.move rfl) rfl ?_; clear hA a; intro a hA
 refine S.valg (dj := 19) hA (by kernel_rfl) rfl (R.tt (R.eqlStr rfl rfl) (by rfl)) rfl ?_; clear hA a; intro a hA
 refine S.val hA (R.pickT rfl rfl) rfl ?_; clear hA a; intro a hA
 refine S.val hA (R.move rfl) rfl ?_; clear hA a; intro a hA
 refine S.valg (dj := 23) hA (by kernel_rfl) rfl (R.move rfl) rfl ?_; clear hA a; intro a hA
 refine S.valg (dj := 23) hA (by kernel_rfl) rfl (R.tt (R.eql rfl rfl) (by first | decide | simp | omega)) rfl ?_; clear hA a; intro a hA
 refine S.val hA (R.pickT rfl rfl) rfl ?_; clear hA a; intro a hA
 refine S.val hA (R.move rfl) rfl ?_; clear hA a; intro a hA
 refine S.valg (dj := 27) hA (by kernel_rfl) rfl (R.move rfl) rfl ?_; clear hA a; intro a hA
 refine S.valg (dj := 27) hA (by kernel_rfl) rfl (R.tt (R.eql rfl rfl) (by first | decide | simp | omega)) rfl ?_; clear hA a; intro a hA
 refine S.val hA (R.pickT rfl rfl) rfl ?_; clear hA a; intro a hA
 refine S.val hA (R.assign rfl) rfl ?_; clear hA a; intro a hA
 refine S.done ?_
 replace hA : St 31 [(0, _)] a := hA.sub ((.cons rfl .nil))
 refine Ends.ret1 Tryd.func11 Tryd.results11 hA rfl ?_
 exact ⟨rfl, Mem.trans0 hbs hM.nilL⟩
end Go.Proofs.YtnhnjjlfoajbgaaDoor
namespace Go.Proofs.YtnhnjjlfoajbgaaDoor
open Go.RowKit
def lgC (N : Nat) : Crt := ⟨0, [0], bs (List.replicate N 112)⟩
theorem rd_ex (s : ByteArray) : ∃ x y, (rdC s).2 = (x, y) := ⟨(rdC s).2.1, (rdC s).2.2, rfl⟩
theorem lg_frm {N : Nat} (h0 : 1 ≤ N) (h1 : N ≤ 1048576) : frmC (lgC N) := by
  have hs : (lgC N).t.size = N := by show (bs (List.replicate N 112)).size = N; rw [bs_size, List.length_replicate]
  refine ⟨by show (0 : Int) ≤ 0; decide, by show (0 : Int) ≤ 1125899906842624; decide, by show 1 ≤ 1; decide, by show 1 ≤ 64; decide, by rw [hs]; exact h0, by rw [hs]; exact h1, ?_, ?_⟩
  · intro k hk
    replace hk : k < 1 := hk
    obtain rfl : k = 0 := by omega
    show (0 : Int) ≤ ([0] : List Int).getD 0 0 ∧ ([0] : List Int).getD 0 0 ≤ 999
    exact ⟨by decide, by decide⟩
  · intro j hj
    rw [hs] at hj
    show isT (byt (bs (List.replicate N 112)) j)
    rw [show bs (List.replicate N 112) = ⟨(List.replicate N (112 : UInt8)).toArray⟩ from rfl, byt_mk (by rw [List.length_replicate]; exact hj), List.getElem_replicate]
    exact .inl rfl
theorem lg_big {N : Nat} (h1 : 1048576 < N) : ¬ frmC (lgC N) := fun h => by
  have hs : (lgC N).t.size = N := by show (bs (List.replicate N 112)).size = N; rw [bs_size, List.length_replicate]
  have := h.2.2.2.2.2.1
  omega
theorem lg_head : headV 0 1 = [67, 69, 82, 84, 32, 48, 32, 49, 10] := by decide +kernel
theorem lg_txt (N : Nat) : txtC (lgC N) = [67, 69, 82, 84, 32, 48, 32, 49, 10, 48, 10] ++ List.replicate N 112 ++ [10] := by
  have h1 : headC (lgC N) = [67, 69, 82, 84, 32, 48, 32, 49, 10] := (headC_eq _).trans lg_head
  have h2 : Lib.join ((lgC N).X.map Lib.itoa) [32] = [48] := by show Lib.join ([(0 : Int)].map Lib.itoa) [32] = [48]; decide +kernel
  unfold txtC
  rw [h1, h2]
  rfl
theorem lg_write {N : Nat} {L : List UInt8} {e : Int} (h : wrP (lgC N) L e) (h1 : 1 ≤ N) : (N ≤ 1048576 → e = 0 ∧ L.length = N + 12) ∧ (1048576 < N → e = 8 ∧ L = []) := by
  rcases h with ⟨g1, g2, g3⟩ | ⟨g1, g2, g3⟩
  · refine ⟨fun _ => ⟨g3, ?_⟩, fun h => absurd g1 (lg_big h)⟩
    rw [g2, lg_txt]
    simp only [List.length_append, List.length_cons, List.length_nil, List.length_replicate]
    omega
  · exact ⟨fun h => absurd (lg_frm h1 h) g1, fun _ => ⟨g3, g2⟩⟩
theorem lg_read {N : Nat} {x y : Int} (h1 : 1 ≤ N) (h : (rdC (bs ([67, 69, 82, 84, 32, 48, 32, 49, 10, 48, 10] ++ List.replicate N 112 ++ [10]))).2 = (x, y)) : (N ≤ 1048576 → y = 0) ∧ (1048576 < N → y = 5 ∧ x = 1048587) := by
  refine ⟨fun hl => ?_, fun hl => ?_⟩
  · rw [← lg_txt, rdC_back (lg_frm h1 hl)] at h
    exact (congrArg Prod.snd h).symm
  · have e1 : [67, 69, 82, 84, 32, 48, 32, 49, 10, 48, 10] ++ List.replicate N 112 ++ [10] = headV 0 1 ++ (nbT [0] 1 1 ++ (List.replicate N 112 ++ [10])) := by
      rw [lg_head, show nbT [0] 1 1 = [48, 10] by decide +kernel]; simp
    have e2 : headV 0 1 ++ (nbT [0] 1 1 ++ (List.replicate N 112 ++ [10])) = (headV 0 1 ++ nbT [0] 1 1) ++ (List.replicate N 112 ++ 10 :: []) := by rw [List.append_assoc]
    have e3 : (headV 0 1 ++ nbT [0] 1 1).length = 11 := by rw [lg_head, show nbT [0] 1 1 = [48, 10] by decide +kernel]; rfl
    rw [e1] at h
    obtain ⟨g1, g2, g3⟩ := hd_full (v := 0) (n := 1) (by decide) (by decide) (by decide) (by decide) (nbT [0] 1 1 ++ (List.replicate N 112 ++ [10]))
    have g4 := cNb_full (X := [0]) (fun k hk => by
      replace hk : k < 1 := hk
      obtain rfl : k = 0 := by omega
      exact ⟨by decide, by decide⟩) 1 (headV 0 1) 1 (List.replicate N 112 ++ [10]) (Nat.le_refl _)
    have g5 : cN (bs (headV 0 1 ++ (nbT [0] 1 1 ++ (List.replicate N 112 ++ [10])))) = ([0], 11, 0) := by
      unfold cN; rw [g3, g1]
      refine g4.trans ?_
      rw [← List.length_append, e3]; rfl
    have g6 := cTr_long (A := headV 0 1 ++ nbT [0] 1 1) (T := List.replicate N 112) (R := []) (fun c hc => by rw [List.eq_of_mem_replicate hc]; exact .inl rfl) (by rw [List.length_replicate]; exact hl)
    rw [← e2, e3] at g6
    have g7 : cT (bs (headV 0 1 ++ (nbT [0] 1 1 ++ (List.replicate N 112 ++ [10])))) = (11 + 1048576, 5) := by unfold cT; rw [g5]; exact g6
    unfold rdC at h
    rw [g1, g5, g7] at h
    simp only [ne_eq, not_true, if_false] at h
    rw [if_pos (by decide)] at h
    exact ⟨(congrArg Prod.snd h).symm, (congrArg Prod.fst h).symm⟩
set_option maxRecDepth 100000 in
set_option maxHeartbeats 400000 in
theorem certLong_w (n0 : Int) (w : World) (htab : Lib.TabIs Tryd.prog w "internal/strconv.uint64pow10" .u64 Lib.pow10Tab) :
  Calls Tryd.prog 6 #[.int .i64 n0] w fun e w' => e = .returned (.bool true) ∧ Below w.heap.size w w' := by
 have hbs := Below.refl (B := w.heap.size) w
 have hM := Mem.start w
 refine Calls.of_ends (vs := [.int .i64 n0]) Tryd.func6 rfl Tryd.ntmps6 rfl ?_
 intro a hA
 replace hA : St 74 [(0, _)] a := hA
 refine Ends.seq (Ends.region ?_)
 refine S.val hA (R.assign rfl) rfl ?_; clear hA a; intro a hA
 refine S.done ?_
 refine Ends.seq (Ends.region ?_)
 refine S.val hA (R.move rfl) rfl ?_; clear hA a; intro a hA
 refine S.val hA (R.conv Tryd.underlying41 Tryd.underlying3 rfl) rfl ?_; clear hA a; intro a hA
 refine S.val hA (R.remI rfl rfl rfl ⟨u64_nn _, by decide⟩) rfl ?_; clear hA a; intro a hA
 obtain ⟨n1, hn2, en3⟩ := umod_ex n0 5 (by decide)
 refine S.val hA (R.to (v := .int .i64 (n1 : Int)) (R.conv Tryd.underlying3 Tryd.underlying41 rfl) (congrArg (Value.int .i64) en3)) rfl ?_; clear hA a; intro a hA
 obtain ⟨N, hN⟩ : ∃ N : Nat, 1048574 + ((n1 : Int)) = (N : Int) := ⟨(1048574 + ((n1 : Int))).toNat, by omega⟩
 refine S.val hA (R.addI rfl rfl (r := (N : Int)) hN (by omega)) rfl ?_; clear hA a; intro a hA
 refine S.val hA (R.assign rfl) rfl ?_; clear hA a; intro a hA
 refine S.done ?_
 replace hA : St 74 [(0, _)] a := hA.sub ((.cons rfl .nil))
 refine Ends.seq (Ends.region ?_)
 refine S.val hA (R.move rfl) rfl ?_; clear hA a; intro a hA
 refine S.make hA hM Tryd.underlying43 info5 rfl rfl rfl (by first | omega | (simp only [List.length_append, List.length_replicate]; omega)) (by show (1 : Int) * _ ≤ _; omega) (by first | omega | (simp only [List.length_append, List.length_replicate]; omega)) rfl ?_; clear hA hM a; intro b4 w1 hb5 hM a hA
 replace hM : Mem _ _ [pt b4 (madeCells #[.int .u8 0] (N * 1)) 5] _ := hM
 rw [Nat.mul_one, made_bys] at hM
 replace hM : Mem _ _ [pt b4 ((bys (List.replicate N 0))) 5] _ := hM
 refine S.val hA (R.assign rfl) rfl ?_; clear hA a; intro a hA
 refine S.done ?_
 refine Ends.seq (Ends.seq (Ends.region ?_))
 refine S.val hA (R.assign rfl) rfl ?_; clear hA a; intro a hA
 refine S.done ?_
 refine Ends.block ?_
 rw [show List.replicate N (0 : Int) = List.replicate 0 (112 : Int) ++ List.replicate (N - 0) 0 from rfl] at hM
 refine Ends.loop (σ := Nat) (fun i (a : Act) (wv : World) => St 74 [(0, .int .i64 ((N : Int))), (3, .slice (some ⟨b4, 0, none⟩) N N), (4, .int .i64 ((i : Int)))] a ∧ Mem w nof [pt b4 ((bys (List.replicate i (112 : Int) ++ List.replicate (N - i) (0 : Int)))) 5] wv ∧ (i ≤ N)) (fun i => N - i) 0 ⟨hA.sub ((.cons rfl (.cons rfl (.cons rfl .nil)))), hM, (Nat.zero_le _)⟩ ?_
 clear hA hM a
 rintro i a w2 ⟨hA, hM, hi⟩ hNext
 refine Ends.seq (Ends.seq (Ends.region ?_))
 refine S.val hA (R.move rfl) rfl ?_; clear hA a; intro a hA
 refine S.val hA (R.move rfl) rfl ?_; clear hA a; intro a hA
 refine S.val hA (R.lss rfl rfl) rfl ?_; clear hA a; intro a hA
 refine S.done ?_
 refine Ends.ite hA rfl (fun hc6 => ?_) (fun hc6 => ?_)
 ·
  refine Ends.skip (Ends.seq (Ends.block (Ends.region ?_)))
  refine S.val hA (R.move rfl) rfl ?_; clear hA a; intro a hA
  refine S.val hA (R.move rfl) rfl ?_; clear hA a; intro a hA
  refine S.val hA (R.indexAddr (q := i) sl43 rfl rfl (by first | omega | (simp only [List.length_append, List.length_replicate]; omega)) (by first | omega | (simp only [List.length_append, List.length_replicate]; omega))) rfl ?_; clear hA a; intro a hA
  refine S.store (k := 0) hA hM sz5 rfl rfl rfl rfl (bys_get _ _ (by first | omega | (simp only [List.length_append, List.length_replicate]; omega))) ?_; clear hM
  intro w3 hM
  rw [bys_set] at hM
  replace hM : Mem _ _ [pt b4 ((bys (((List.replicate i (112 : Int) ++ List.replicate (N - i) (0 : Int))).set i 112))) 5] _ := hM
  refine S.done ?_
  replace hA : St 74 [(0, _), (3, _), (4, _)] a := hA.sub ((.cons rfl (.cons rfl (.cons rfl .nil))))
  refine Ends.inBlock (Ends.region ?_)
  refine S.val hA (R.move rfl) rfl ?_; clear hA a; intro a hA
  refine S.val hA (R.addI rfl rfl (r := ((i : Int)) + 1) rfl (by first | omega | (simp only [List.length_append, List.length_replicate]; omega))) rfl ?_; clear hA a; intro a hA
  refine S.val hA (R.assign rfl) rfl ?_; clear hA a; intro a hA
  refine S.done ?_
  rw [rep_set 112 0 i N (by omega)] at hM
  exact hNext ((i + 1)) _ _ ((by show N - (i + 1) < N - i; omega)) ⟨hA.sub ((.cons rfl (.cons rfl (.cons rfl .nil)))), hM, (by omega)⟩
 ·
  refine Ends.exit rfl ?_
  replace hA : St 74 [(0, _), (3, _)] a := hA.sub ((.cons rfl (.cons rfl .nil)))
  refine Ends.seq ?_
  have hiN : i = N := by omega
  have hrl8 : (List.replicate N (112 : UInt8)).length = N := List.length_replicate
  rw [hiN, Nat.sub_self, List.replicate_zero, List.append_nil] at hM
  refine Ends.region ?_
  refine S.buildSl (cells := #[.int .i64 0]) hA hM Tryd.underlying22 info3 rfl rfl rfl rfl (by kernel_rfl) rfl ?_; clear hA hM a; intro b7 w4 hb8 hM a hA
  replace hM : Mem _ _ [pt b7 #[.int .i64 0] 3, pt b4 ((bys (List.replicate N (112 : Int)))) 5] _ := hM
  refine S.val hA (R.move rfl) rfl ?_; clear hA a; intro a hA
  refine S.val hA (R.to (v := .string (bs (List.replicate N 112))) (R.bytesStr (ns := List.replicate N 112) hM (k := 1) rfl Tryd.underlying43 Tryd.underlying5 Tryd.underlying9 (by rw [List.length_replicate]; rfl)) (by rw [List.map_replicate]; rfl)) rfl ?_; clear hA a; intro a hA
  refine S.val hA (R.build (cells := #[.int .i64 0, .slice (some ⟨b7, 0, none⟩) 1 1, .string ((bs ((List.replicate N 112))))]) rfl (by kernel_rfl)) rfl ?_; clear hA a; intro a hA
  have hq9 := hM.ptRs (k := 0) (X := ([0] : List Int)) rfl (by decide)
  refine S.call hA (R.callF Tryd.func9 rfl rfl rfl) rfl (cwrite30 0 (by unfold bd64; decide) (some ⟨b7, 0, none⟩) [0] 1 (List.replicate N 112) (by rw [List.length_replicate]; omega) _ hq9 (tab_below htab (Mem.trans0 hbs hM.nilL))) ?_; clear hA a
  rintro e w5 ⟨L9, e9, rfl, hw9, hb⟩
  replace hM := hM.callB hb; clear hb
  obtain ⟨hwa, hwb⟩ := lg_write (N := N) hw9 (by omega)
  refine ⟨.tuple #[.string ((bs L9)), .int .i64 e9], rfl, fun a hA => ?_⟩
  refine S.val hA (R.move rfl) rfl ?_; clear hA a; intro a hA
  refine S.val hA (R.extract (v := .string ((bs L9))) rfl rfl) rfl ?_; clear hA a; intro a hA
  refine S.val hA (R.extract (v := .int .i64 e9) rfl rfl) rfl ?_; clear hA a; intro a hA
  refine S.val hA (R.assign rfl) rfl ?_; clear hA a; intro a hA
  refine S.val hA (R.assign rfl) rfl ?_; clear hA a; intro a hA
  refine S.done ?_
  replace hA : St 74 [(0, _), (3, _), (5, _), (6, _)] a := hA.sub ((.cons rfl (.cons rfl (.cons rfl (.cons rfl .nil)))))
  refine Ends.seq (Ends.region ?_)
  refine S.val hA (R.move rfl) rfl ?_; clear hA a; intro a hA
  refine S.val hA (R.to (v := .string (bs (List.replicate N 112))) (R.bytesStr (ns := List.replicate N 112) hM (k := 1) rfl Tryd.underlying43 Tryd.underlying5 Tryd.underlying9 (by rw [List.length_replicate]; rfl)) (by rw [List.map_replicate]; rfl)) rfl ?_; clear hA a; intro a hA
  refine S.val hA (R.to (v := .string (bs (([67, 69, 82, 84, 32, 48, 32, 49, 10, 48, 10] : List UInt8) ++ (List.replicate N 112)))) (R.addS rfl rfl (by show (bs (([67, 69, 82, 84, 32, 48, 32, 49, 10, 48, 10] : List UInt8))).size + (bs ((List.replicate N 112))).size ≤ _; simp only [bs_size, List.length_append, List.length_cons, List.length_nil]; omega)) (congrArg Value.string (bs_app (([67, 69, 82, 84, 32, 48, 32, 49, 10, 48, 10] : List UInt8)) ((List.replicate N 112))))) rfl ?_; clear hA a; intro a hA
  refine S.val hA (R.to (v := .string (bs ((([67, 69, 82, 84, 32, 48, 32, 49, 10, 48, 10] : List UInt8) ++ (List.replicate N 112)) ++ ([10] : List UInt8)))) (R.addS rfl rfl (by show (bs ((([67, 69, 82, 84, 32, 48, 32, 49, 10, 48, 10] : List UInt8) ++ (List.replicate N 112)))).size + (bs (([10] : List UInt8))).size ≤ _; simp only [bs_size, List.length_append, List.length_cons, List.length_nil]; omega)) (congrArg Value.string (bs_app ((([67, 69, 82, 84, 32, 48, 32, 49, 10, 48, 10] : List UInt8) ++ (List.replicate N 112))) (([10] : List UInt8))))) rfl ?_; clear hA a; intro a hA
  obtain ⟨x9, y9, hrd⟩ : ∃ x y, (rdC (bs ([67, 69, 82, 84, 32, 48, 32, 49, 10, 48, 10] ++ List.replicate N 112 ++ [10]))).2 = (x, y) := rd_ex _
  obtain ⟨hra, hrb⟩ := lg_read (by omega) hrd
  refine S.call hA (R.callF Tryd.func14 rfl rfl rfl) rfl (cread_at (s := bs ([67, 69, 82, 84, 32, 48, 32, 49, 10, 48, 10] ++ List.replicate N 112 ++ [10])) (by rw [bs_size]; simp only [List.length_append, List.length_cons, List.length_nil, List.length_replicate]; omega) hrd _) ?_; clear hA a
  rintro e w6 ⟨g1, oa9, g2, oc9, g3, rfl, hb⟩
  replace hM := hM.callB hb; clear hb
  refine ⟨.tuple #[.agg #[.int .i64 g1, .slice oa9 g2 oc9, .string g3], .int .i64 x9, .int .i64 y9], rfl, fun a hA => ?_⟩
  refine S.val hA (R.move rfl) rfl ?_; clear hA a; intro a hA
  refine S.val hA (R.extract (v := .agg #[.int .i64 g1, .slice oa9 g2 oc9, .string g3]) rfl rfl) rfl ?_; clear hA a; intro a hA
  refine S.val hA (R.extract (v := .int .i64 x9) rfl rfl) rfl ?_; clear hA a; intro a hA
  refine S.val hA (R.extract (v := .int .i64 y9) rfl rfl) rfl ?_; clear hA a; intro a hA
  refine S.alloc hA hM info26 rfl rfl ?_; clear hA hM a; intro b9 w7 hb10 hM a hA
  replace hM : Mem _ _ [pt b9 #[.int .i64 0, .slice none 0 0, .string (⟨#[]⟩)] 26, pt b7 #[.int .i64 0] 3, pt b4 ((bys (List.replicate N (112 : Int)))) 5] _ := hM
  refine S.storeA (k := 0) hA hM sz26 rfl rfl rfl rfl rfl rfl ?_; clear hM
  intro w8 hM
  replace hM : Mem _ _ [pt b9 #[.int .i64 g1, .slice oa9 g2 oc9, .string g3] 26, pt b7 #[.int .i64 0] 3, pt b4 ((bys (List.replicate N (112 : Int)))) 5] _ := hM
  refine S.val hA (R.assign rfl) rfl ?_; clear hA a; intro a hA
  refine S.val hA (R.assign rfl) rfl ?_; clear hA a; intro a hA
  refine S.done ?_
  replace hA : St 74 [(0, _), (5, _), (6, _), (8, _), (9, _)] a := hA.sub ((.cons rfl (.cons rfl (.cons rfl (.cons rfl (.cons rfl .nil))))))
  refine Ends.seq (Ends.seq (Ends.region ?_))
  refine S.call hA (R.callF Tryd.func11 rfl rfl rfl) rfl (certs_any _ (tab_below htab (Mem.trans0 hbs hM.nilL))) ?_; clear hA a
  rintro e w9 ⟨rfl, hb⟩
  replace hM := hM.callB hb; clear hb
  refine ⟨.bool true, rfl, fun a hA => ?_⟩
  refine S.val hA (R.not rfl) rfl ?_; clear hA a; intro a hA
  refine S.done ?_
  refine Ends.condF hA rfl ?_
  refine Ends.skip (Ends.seq (Ends.seq (Ends.region ?_)))
  refine S.val hA (R.move rfl) rfl ?_; clear hA a; intro a hA
  refine S.val hA (R.gtr rfl rfl) rfl ?_; clear hA a; intro a hA
  refine S.done ?_
  refine Ends.ite hA rfl (fun hc11 => ?_) (fun hc11 => ?_)
  ·
   have ha9 := hwb (by omega)
   have hb9 := hrb (by omega)
   refine Ends.seq (Ends.region ?_)
   refine S.val hA (R.move rfl) rfl ?_; clear hA a; intro a hA
   refine S.val hA (R.tt (R.eql rfl rfl) (ha9.1)) rfl ?_; clear hA a; intro a hA
   refine S.val hA (R.move rfl) rfl ?_; clear hA a; intro a hA
   refine S.valg (dj := 48) hA (by kernel_rfl) rfl (R.move rfl) rfl ?_; clear hA a; intro a hA
   refine S.valg (dj := 48) hA (by kernel_rfl) rfl (R.lenStr Tryd.underlying9 rfl rfl) rfl ?_; clear hA a; intro a hA
   refine S.valg (dj := 48) hA (by kernel_rfl) rfl (R.tt (R.eql rfl rfl) (by rw [ha9.2]; rfl)) rfl ?_; clear hA a; intro a hA
   refine S.val hA (R.pickT rfl rfl) rfl ?_; clear hA a; intro a hA
   refine S.val hA (R.move rfl) rfl ?_; clear hA a; intro a hA
   refine S.valg (dj := 53) hA (by kernel_rfl) rfl (R.move rfl) rfl ?_; clear hA a; intro a hA
   refine S.valg (dj := 53) hA (by kernel_rfl) rfl (R.tt (R.eql rfl rfl) (hb9.1)) rfl ?_; clear hA a; intro a hA
   refine S.val hA (R.pickT rfl rfl) rfl ?_; clear hA a; intro a hA
   refine S.val hA (R.move rfl) rfl ?_; clear hA a; intro a hA
   refine S.valg (dj := 57) hA (by kernel_rfl) rfl (R.move rfl) rfl ?_; clear hA a; intro a hA
   refine S.valg (dj := 57) hA (by kernel_rfl) rfl (R.tt (R.eql rfl rfl) (hb9.2)) rfl ?_; clear hA a; intro a hA
   refine S.val hA (R.pickT rfl rfl) rfl ?_; clear hA a; intro a hA
   refine S.val hA (R.assign rfl) rfl ?_; clear hA a; intro a hA
   refine S.done ?_
   replace hA : St 74 [(0, _), (2, _), (5, _), (6, _), (9, _)] a := hA.sub ((.cons rfl (.cons rfl (.cons rfl (.cons rfl (.cons rfl .nil))))))
   refine Ends.ret1 Tryd.func6 Tryd.results6 hA rfl ?_
   exact ⟨rfl, Mem.trans0 hbs hM.nilL⟩
  ·
   have ha9 := hwa (by omega)
   have hb9 := hra (by omega)
   refine Ends.skip (Ends.seq (Ends.region ?_))
   refine S.val hA (R.move rfl) rfl ?_; clear hA a; intro a hA
   refine S.val hA (R.tt (R.eql rfl rfl) (ha9.1)) rfl ?_; clear hA a; intro a hA
   refine S.val hA (R.move rfl) rfl ?_; clear hA a; intro a hA
   refine S.valg (dj := 63) hA (by kernel_rfl) rfl (R.move rfl) rfl ?_; clear hA a; intro a hA
   refine S.valg (dj := 63) hA (by kernel_rfl) rfl (R.tt (R.eql rfl rfl) (hb9)) rfl ?_; clear hA a; intro a hA
   refine S.val hA (R.pickT rfl rfl) rfl ?_; clear hA a; intro a hA
   refine S.val hA (R.move rfl) rfl ?_; clear hA a; intro a hA
   refine S.valg (dj := 67) hA (by kernel_rfl) rfl (R.move rfl) rfl ?_; clear hA a; intro a hA
   refine S.valg (dj := 67) hA (by kernel_rfl) rfl (R.lenStr Tryd.underlying9 rfl rfl) rfl ?_; clear hA a; intro a hA
   refine S.valg (dj := 67) hA (by kernel_rfl) rfl (R.move rfl) rfl ?_; clear hA a; intro a hA
   refine S.valg (dj := 67) hA (by kernel_rfl) rfl (R.addI rfl rfl (r := ((N : Int)) + 12) rfl (by first | omega | (simp only [List.length_append, List.length_replicate]; omega))) rfl ?_; clear hA a; intro a hA
   refine S.valg (dj := 67) hA (by kernel_rfl) rfl (R.tt (R.eql rfl rfl) (by rw [bs_size, ha9.2]; omega)) rfl ?_; clear hA a; intro a hA
   refine S.val hA (R.pickT rfl rfl) rfl ?_; clear hA a; intro a hA
   refine S.val hA (R.assign rfl) rfl ?_; clear hA a; intro a hA
   refine S.done ?_
   replace hA : St 74 [(2, _)] a := hA.sub ((.cons rfl .nil))
   refine Ends.ret1 Tryd.func6 Tryd.results6 hA rfl ?_
   exact ⟨rfl, Mem.trans0 hbs hM.nilL⟩
theorem certLong_any (n : Int) (_h : (Lit.int .i64 n).wf = true) (w : World) (htab : Lib.TabIs Tryd.prog w "internal/strconv.uint64pow10" .u64 Lib.pow10Tab) : Calls Tryd.prog 6 #[.int .i64 n] w fun e w' => e = .returned (.bool true) ∧ Below w.heap.size w w' := certLong_w n w htab
end Go.Proofs.YtnhnjjlfoajbgaaDoor
