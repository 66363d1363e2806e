/-
  Signs; the law DigitLines.
-/
import Derived.Test.YtdbbigjoloinpaaDoorDigW
import Derived.Test.YtdbbigjoloinpaaDoorDig2
namespace Go.Proofs.YtdbbigjoloinpaaDoor
open Go.RowKit
theorem rcount_any (s : ByteArray) (h : s.size < 9223372036854775807) (w : World) : Calls Tryd.prog 33 #[.string s] w fun e w' => e = .returned (.int .i64 (Lib.runeCount s : Int)) ∧ Below w.heap.size w w' :=
  (Tryd.utf8_RuneCountInString s w h).mono fun e w' ⟨he, p, hw⟩ => ⟨he, hw ▸ (Below.refl _ _).alloc (Nat.le_refl _) _⟩

set_option maxRecDepth 100000 in
set_option maxHeartbeats 400000 in
theorem signs_any (s : ByteArray) (h : s.size < 9223372036854775807) (w : World) :
    Calls Tryd.prog 26 #[.string s] w fun e w' => e = .returned (.int .i64 (Lib.runeCount s : Int)) ∧ Below w.heap.size w w' := by
  have hM := Mem.start w
  refine Calls.of_ends (vs := [.string s]) Tryd.func26 rfl Tryd.ntmps26 rfl ?_
  intro a hA
  replace hA : St 5 [(0, _)] a := hA
  refine Ends.seq ?_
  refine Ends.region ?_
  refine S.val hA (R.assign rfl) rfl ?_; clear hA a; intro a hA
  refine S.done ?_
  replace hA : St 5 [(0, _)] a := hA.sub ((.cons rfl .nil))
  refine Ends.seq ?_
  refine Ends.region ?_
  refine S.val hA (R.move rfl) rfl ?_; clear hA a; intro a hA
  refine S.call hA (R.callF Tryd.func33 rfl rfl rfl) rfl (rcount_any s (by omega) _) ?_; clear hA a
  rintro e w1 ⟨rfl, hb⟩
  replace hM := hM.callB hb; clear hb
  refine ⟨.int .i64 ((Lib.runeCount s : Int)), rfl, fun a hA => ?_⟩
  refine S.val hA (R.assign rfl) rfl ?_; clear hA a; intro a hA
  refine S.done ?_
  replace hA : St 5 [(2, _)] a := hA.sub ((.cons rfl .nil))
  refine Ends.ret1 Tryd.func26 Tryd.results26 hA rfl ?_
  exact ⟨rfl, hM.nilL.below⟩
set_option maxRecDepth 100000 in
set_option maxHeartbeats 400000 in
theorem digitLines_w (s : ByteArray) (w : World) (htab : Lib.TabIs Tryd.prog w "internal/strconv.uint64pow10" .u64 Lib.pow10Tab) :
    Calls Tryd.prog 11 #[.string s] w fun e w' => e = .returned (.bool true) ∧ Below w.heap.size w w' := by
  have hM := Mem.start w
  refine Calls.of_ends (vs := [.string s]) Tryd.func11 rfl Tryd.ntmps11 rfl ?_
  intro a hA
  replace hA : St 68 [(0, _)] a := hA
  refine Ends.seq ?_
  refine Ends.region ?_
  refine S.val hA (R.assign rfl) rfl ?_; clear hA a; intro a hA
  refine S.done ?_
  replace hA : St 68 [(0, _)] a := hA.sub ((.cons rfl .nil))
  refine Ends.seq ?_
  refine Ends.seq ?_
  refine Ends.region ?_
  refine S.val hA (R.move rfl) rfl ?_; clear hA a; intro a hA
  refine S.val hA (R.lenStr Tryd.underlying9 rfl rfl) rfl ?_; clear hA a; intro a hA
  refine S.val hA (R.gtr rfl rfl) rfl ?_; clear hA a; intro a hA
  refine S.done ?_
  replace hA : St 68 [(0, _), (14, _)] a := hA.sub ((.cons rfl (.cons rfl .nil)))
  refine Ends.ite hA rfl (fun hc1 => ?_) (fun hc1 => ?_)
  ·
    refine Ends.seq ?_
    refine Ends.region ?_
    refine S.call hA (R.callF Tryd.func18 rfl rfl rfl) rfl (digits_any _ (tab_below htab hM.nilL.below)) ?_; clear hA a
    rintro e w1 ⟨rfl, hb⟩
    replace hM := hM.callB hb; clear hb
    refine ⟨.bool true, rfl, fun a hA => ?_⟩
    refine S.val hA (R.assign rfl) rfl ?_; clear hA a; intro a hA
    refine S.done ?_
    replace hA : St 68 [(0, _), (2, _)] a := hA.sub ((.cons rfl (.cons rfl .nil)))
    refine Ends.ret1 Tryd.func11 Tryd.results11 hA rfl ?_
    exact ⟨rfl, hM.nilL.below⟩
  ·
    refine Ends.skip ?_
    refine Ends.seq ?_
    refine Ends.region ?_
    refine S.val hA (R.assign rfl) rfl ?_; clear hA a; intro a hA
    refine S.val hA (R.assign rfl) rfl ?_; clear hA a; intro a hA
    refine S.val hA (R.assign rfl) rfl ?_; clear hA a; intro a hA
    refine S.done ?_
    replace hA : St 68 [(0, _), (3, _), (4, _), (5, _)] a := hA.sub ((.cons rfl (.cons rfl (.cons rfl (.cons rfl .nil)))))
    refine Ends.seq ?_
    refine Ends.seq ?_
    refine Ends.region ?_
    refine S.val hA (R.move rfl) rfl ?_; clear hA a; intro a hA
    refine S.rangeS hA hM Tryd.underlying9 rfl rfl ?_; clear hA hM a; intro b2 w2 hb3 hM a hA
    replace hM : Mem _ _ [itC b2 s 0] _ := hM
    refine S.done ?_
    replace hA : St 68 [(0, _), (3, _), (4, _), (5, _), (17, _)] a := hA.sub ((.cons rfl (.cons rfl (.cons rfl (.cons rfl (.cons rfl .nil))))))
    refine Ends.block ?_
    refine Ends.loop (σ := Nat × Nat × Int × Int × Nat) (fun (p, f, l, c, m) (a : Act) (wv : World) => St 68 [(0, .string s), (3, .int .i64 l), (4, .int .i64 c), (5, .int .i64 ((m : Int))), (17, .pointer (some ⟨b2, 0, none⟩))] a ∧ Mem w nof [itC b2 s p] wv ∧ (s.size ≤ p + f) ∧ (∀ q : Int, (p : Int) ≤ q → plF s q f p l c = plI s q) ∧ (1 ≤ l ∧ l ≤ 1 + (p : Int)) ∧ (1 ≤ c ∧ c ≤ 1 + (p : Int)) ∧ (m + Lib.runeCountFrom s f p = Lib.runeCount s) ∧ (p ≤ s.size ∧ m ≤ p)) (fun (p, f, l, c, m) => f) ((0, s.size, 1, 1, 0)) ⟨hA.sub ((.cons rfl (.cons rfl (.cons rfl (.cons rfl (.cons rfl .nil)))))), hM, (by omega), (fun q _ => rfl), (by omega), (by omega), (by rw [Nat.zero_add]; rfl), (by omega)⟩ ?_
    clear hA hM a
    rintro ⟨p, f, l, c, m⟩ a w3 ⟨hA, hM, hf, hpl, hl, hc, hm, hp⟩ hNext
    refine Ends.seq ?_
    refine Ends.region ?_
    by_cases hp4 : p < s.size
    ·
      refine S.nextT (k := 0) hA hM rfl rfl hp4 rfl ?_; clear hA hM a; intro w4 hM a hA
      replace hM : Mem _ _ [itC b2 s ((p + (Utf8.decode s p).2))] _ := hM
      refine S.val hA (R.extract (v := .bool true) rfl rfl) rfl ?_; clear hA a; intro a hA
      refine S.done ?_
      replace hA : St 68 [(0, _), (3, _), (4, _), (5, _), (17, _), (18, _), (19, _)] a := hA.sub ((.cons rfl (.cons rfl (.cons rfl (.cons rfl (.cons rfl (.cons rfl (.cons rfl .nil))))))))
      refine Ends.seq ?_
      refine Ends.condT hA rfl ?_
      refine Ends.skip ?_
      refine Ends.block ?_
      refine Ends.seq ?_
      refine Ends.region ?_
      refine S.val hA (R.extract (v := .int .i64 ((p : Int))) rfl rfl) rfl ?_; clear hA a; intro a hA
      refine S.val hA (R.extract (v := .int .i32 (((Utf8.decode s p).1 : Int))) rfl rfl) rfl ?_; clear hA a; intro a hA
      refine S.val hA (R.assign rfl) rfl ?_; clear hA a; intro a hA
      refine S.val hA (R.assign rfl) rfl ?_; clear hA a; intro a hA
      refine S.done ?_
      replace hA : St 68 [(0, _), (3, _), (4, _), (5, _), (6, _), (7, _), (17, _)] a := hA.sub ((.cons rfl (.cons rfl (.cons rfl (.cons rfl (.cons rfl (.cons rfl (.cons rfl .nil))))))))
      refine Ends.seq ?_
      refine Ends.region ?_
      refine S.val hA (R.move rfl) rfl ?_; clear hA a; intro a hA
      refine S.val hA (R.move rfl) rfl ?_; clear hA a; intro a hA
      refine S.call hA (R.callF Tryd.func24 rfl rfl rfl) rfl (place_any s ((p : Int)) (by omega) _) ?_; clear hA a
      rintro e w5 ⟨rfl, hb⟩
      replace hM := hM.callB hb; clear hb
      refine ⟨.tuple #[.int .i64 ((plI s ((p : Int))).1), .int .i64 ((plI s ((p : Int))).2)], rfl, fun a hA => ?_⟩
      refine S.val hA (R.move rfl) rfl ?_; clear hA a; intro a hA
      refine S.val hA (R.extract (v := .int .i64 ((plI s ((p : Int))).1)) rfl rfl) rfl ?_; clear hA a; intro a hA
      refine S.val hA (R.extract (v := .int .i64 ((plI s ((p : Int))).2)) rfl rfl) rfl ?_; clear hA a; intro a hA
      refine S.val hA (R.assign rfl) rfl ?_; clear hA a; intro a hA
      refine S.val hA (R.assign rfl) rfl ?_; clear hA a; intro a hA
      refine S.done ?_
      replace hA : St 68 [(0, _), (3, _), (4, _), (5, _), (7, _), (8, _), (9, _), (17, _)] a := hA.sub ((.cons rfl (.cons rfl (.cons rfl (.cons rfl (.cons rfl (.cons rfl (.cons rfl (.cons rfl .nil)))))))))
      refine Ends.seq ?_
      refine Ends.seq ?_
      have epl : plI s (p : Int) = (l, c) := by rw [← hpl _ (Int.le_refl _)]; exact plF_stop (fun h => by omega) _ _ _
      refine Ends.region ?_
      refine S.val hA (R.move rfl) rfl ?_; clear hA a; intro a hA
      refine S.val hA (R.move rfl) rfl ?_; clear hA a; intro a hA
      refine S.val hA (R.ff (R.neq rfl rfl) (by rw [epl]; simp)) rfl ?_; clear hA a; intro a hA
      refine S.val hA (R.move rfl) rfl ?_; clear hA a; intro a hA
      refine S.valg (dj := 31) hA (by kernel_rfl) rfl (R.move rfl) rfl ?_; clear hA a; intro a hA
      refine S.valg (dj := 31) hA (by kernel_rfl) rfl (R.move rfl) rfl ?_; clear hA a; intro a hA
      refine S.valg (dj := 31) hA (by kernel_rfl) rfl (R.ff (R.neq rfl rfl) (by rw [epl]; simp)) rfl ?_; clear hA a; intro a hA
      refine S.val hA (R.pickF rfl rfl) rfl ?_; clear hA a; intro a hA
      refine S.done ?_
      replace hA : St 68 [(0, _), (3, _), (4, _), (5, _), (7, _), (17, _), (35, _)] a := hA.sub ((.cons rfl (.cons rfl (.cons rfl (.cons rfl (.cons rfl (.cons rfl (.cons rfl .nil))))))))
      refine Ends.condF hA rfl ?_
      refine Ends.skip ?_
      refine Ends.seq ?_
      refine Ends.region ?_
      refine S.val hA (R.move rfl) rfl ?_; clear hA a; intro a hA
      refine S.val hA (R.addI rfl rfl (r := c + 1) rfl (by omega)) rfl ?_; clear hA a; intro a hA
      refine S.val hA (R.assign rfl) rfl ?_; clear hA a; intro a hA
      refine S.done ?_
      replace hA : St 68 [(0, _), (3, _), (4, _), (5, _), (7, _), (17, _)] a := hA.sub ((.cons rfl (.cons rfl (.cons rfl (.cons rfl (.cons rfl (.cons rfl .nil)))))))
      refine Ends.seq ?_
      refine Ends.seq ?_
      refine Ends.region ?_
      refine S.val hA (R.move rfl) rfl ?_; clear hA a; intro a hA
      refine S.val hA (R.eql rfl rfl) rfl ?_; clear hA a; intro a hA
      refine S.done ?_
      replace hA : St 68 [(0, _), (3, _), (4, _), (5, _), (17, _), (39, _)] a := hA.sub ((.cons rfl (.cons rfl (.cons rfl (.cons rfl (.cons rfl (.cons rfl .nil)))))))
      refine Ends.ite hA rfl (fun hc5 => ?_) (fun hc5 => ?_)
      ·
        refine Ends.region ?_
        refine S.val hA (R.move rfl) rfl ?_; clear hA a; intro a hA
        refine S.val hA (R.addI rfl rfl (r := l + 1) rfl (by omega)) rfl ?_; clear hA a; intro a hA
        refine S.val hA (R.assign rfl) rfl ?_; clear hA a; intro a hA
        refine S.val hA (R.assign rfl) rfl ?_; clear hA a; intro a hA
        refine S.done ?_
        replace hA : St 68 [(0, _), (3, _), (4, _), (5, _), (17, _)] a := hA.sub ((.cons rfl (.cons rfl (.cons rfl (.cons rfl (.cons rfl .nil))))))
        refine Ends.region ?_
        refine S.val hA (R.move rfl) rfl ?_; clear hA a; intro a hA
        refine S.val hA (R.addI rfl rfl (r := ((m : Int)) + 1) rfl (by omega)) rfl ?_; clear hA a; intro a hA
        refine S.val hA (R.assign rfl) rfl ?_; clear hA a; intro a hA
        refine S.done ?_
        replace hA : St 68 [(0, _), (3, _), (4, _), (5, _), (17, _)] a := hA.sub ((.cons rfl (.cons rfl (.cons rfl (.cons rfl (.cons rfl .nil))))))
        refine Ends.inBlock ?_
        have hwd := Lib.decode_width_pos s p hp4
        have hft := dec_fit hp4
        exact hNext ((p + (Utf8.decode s p).2, f - 1, l + 1, 1, m + 1)) _ _ ((by show f - 1 < f; omega)) ⟨hA.sub ((.cons rfl (.cons rfl (.cons rfl (.cons rfl (.cons rfl .nil)))))), hM, (by omega), (fun q hq => by have hstep := plF_step (q := q) hp4 (by omega) (show 0 < f by omega) l c; rw [if_pos hc5, if_pos hc5] at hstep; exact hstep.symm.trans (hpl q (by omega))), (by omega), (by omega), (by have hr := rc_step hp4 (show 0 < f by omega); omega), (by omega)⟩
      ·
        refine Ends.skip ?_
        refine Ends.region ?_
        refine S.val hA (R.move rfl) rfl ?_; clear hA a; intro a hA
        refine S.val hA (R.addI rfl rfl (r := ((m : Int)) + 1) rfl (by omega)) rfl ?_; clear hA a; intro a hA
        refine S.val hA (R.assign rfl) rfl ?_; clear hA a; intro a hA
        refine S.done ?_
        replace hA : St 68 [(0, _), (3, _), (4, _), (5, _), (17, _)] a := hA.sub ((.cons rfl (.cons rfl (.cons rfl (.cons rfl (.cons rfl .nil))))))
        refine Ends.inBlock ?_
        have hwd := Lib.decode_width_pos s p hp4
        have hft := dec_fit hp4
        exact hNext ((p + (Utf8.decode s p).2, f - 1, l, c + 1, m + 1)) _ _ ((by show f - 1 < f; omega)) ⟨hA.sub ((.cons rfl (.cons rfl (.cons rfl (.cons rfl (.cons rfl .nil)))))), hM, (by omega), (fun q hq => by have hstep := plF_step (q := q) hp4 (by omega) (show 0 < f by omega) l c; rw [if_neg hc5, if_neg hc5] at hstep; exact hstep.symm.trans (hpl q (by omega))), (by omega), (by omega), (by have hr := rc_step hp4 (show 0 < f by omega); omega), (by omega)⟩
    ·
      refine S.val hA (R.nextF (k := 0) hM rfl rfl hp4) rfl ?_; clear hA a; intro a hA
      refine S.val hA (R.extract (v := .bool false) rfl rfl) rfl ?_; clear hA a; intro a hA
      refine S.done ?_
      replace hA : St 68 [(0, _), (3, _), (4, _), (5, _), (17, _), (18, _), (19, _)] a := hA.sub ((.cons rfl (.cons rfl (.cons rfl (.cons rfl (.cons rfl (.cons rfl (.cons rfl .nil))))))))
      refine Ends.seq ?_
      refine Ends.condF hA rfl ?_
      refine Ends.exit rfl ?_
      replace hA : St 68 [(0, _), (3, _), (4, _), (5, _)] a := hA.sub ((.cons rfl (.cons rfl (.cons rfl (.cons rfl .nil)))))
      refine Ends.seq ?_
      refine Ends.region ?_
      refine S.val hA (R.move rfl) rfl ?_; clear hA a; intro a hA
      refine S.val hA (R.move rfl) rfl ?_; clear hA a; intro a hA
      refine S.val hA (R.lenStr Tryd.underlying9 rfl rfl) rfl ?_; clear hA a; intro a hA
      refine S.call hA (R.callF Tryd.func24 rfl rfl rfl) rfl (place_any s ((s.size : Int)) (by omega) _) ?_; clear hA a
      rintro e w6 ⟨rfl, hb⟩
      replace hM := hM.callB hb; clear hb
      refine ⟨.tuple #[.int .i64 ((plI s ((s.size : Int))).1), .int .i64 ((plI s ((s.size : Int))).2)], rfl, fun a hA => ?_⟩
      refine S.val hA (R.move rfl) rfl ?_; clear hA a; intro a hA
      refine S.val hA (R.extract (v := .int .i64 ((plI s ((s.size : Int))).1)) rfl rfl) rfl ?_; clear hA a; intro a hA
      refine S.val hA (R.extract (v := .int .i64 ((plI s ((s.size : Int))).2)) rfl rfl) rfl ?_; clear hA a; intro a hA
      refine S.val hA (R.assign rfl) rfl ?_; clear hA a; intro a hA
      refine S.val hA (R.assign rfl) rfl ?_; clear hA a; intro a hA
      refine S.done ?_
      replace hA : St 68 [(0, _), (3, _), (4, _), (5, _), (10, _), (11, _)] a := hA.sub ((.cons rfl (.cons rfl (.cons rfl (.cons rfl (.cons rfl (.cons rfl .nil)))))))
      refine Ends.seq ?_
      have hpe : p = s.size := by omega
      have epl : plI s (s.size : Int) = (l, c) := by rw [← hpl _ (by omega)]; exact plF_stop (fun h => by omega) _ _ _
      have hrc : Lib.runeCountFrom s f p = 0 := Lib.runeCountFrom_end s f p (by omega)
      refine Ends.region ?_
      refine S.call hA (R.callF Tryd.func18 rfl rfl rfl) rfl (digits_any _ (tab_below htab hM.nilL.below)) ?_; clear hA a
      rintro e w7 ⟨rfl, hb⟩
      replace hM := hM.callB hb; clear hb
      refine ⟨.bool true, rfl, fun a hA => ?_⟩
      refine S.val hA (R.move rfl) rfl ?_; clear hA a; intro a hA
      refine S.valg (dj := 52) hA (by kernel_rfl) rfl (R.move rfl) rfl ?_; clear hA a; intro a hA
      refine S.valg (dj := 52) hA (by kernel_rfl) rfl (R.move rfl) rfl ?_; clear hA a; intro a hA
      refine S.valg (dj := 52) hA (by kernel_rfl) rfl (R.tt (R.eql rfl rfl) (by rw [epl])) rfl ?_; clear hA a; intro a hA
      refine S.val hA (R.pickT rfl rfl) rfl ?_; clear hA a; intro a hA
      refine S.val hA (R.move rfl) rfl ?_; clear hA a; intro a hA
      refine S.valg (dj := 57) hA (by kernel_rfl) rfl (R.move rfl) rfl ?_; clear hA a; intro a hA
      refine S.valg (dj := 57) hA (by kernel_rfl) rfl (R.move rfl) rfl ?_; clear hA a; intro a hA
      refine S.valg (dj := 57) hA (by kernel_rfl) rfl (R.tt (R.eql rfl rfl) (by rw [epl])) rfl ?_; clear hA a; intro a hA
      refine S.val hA (R.pickT rfl rfl) rfl ?_; clear hA a; intro a hA
      refine S.val hA (R.move rfl) rfl ?_; clear hA a; intro a hA
      refine S.valg (dj := 62) hA (by kernel_rfl) rfl (R.move rfl) rfl ?_; clear hA a; intro a hA
      refine S.callg (dj := 62) hA (by kernel_rfl) rfl (R.callF Tryd.func26 rfl rfl rfl) rfl (signs_any s (by omega) _) ?_; clear hA a
      rintro e w8 ⟨rfl, hb⟩
      replace hM := hM.callB hb; clear hb
      refine ⟨.int .i64 ((Lib.runeCount s : Int)), rfl, fun a hA => ?_⟩
      refine S.valg (dj := 62) hA (by kernel_rfl) rfl (R.move rfl) rfl ?_; clear hA a; intro a hA
      refine S.valg (dj := 62) hA (by kernel_rfl) rfl (R.tt (R.eql rfl rfl) (by omega)) rfl ?_; clear hA a; intro a hA
      refine S.val hA (R.pickT rfl rfl) rfl ?_; clear hA a; intro a hA
      refine S.val hA (R.assign rfl) rfl ?_; clear hA a; intro a hA
      refine S.done ?_
      replace hA : St 68 [(2, _)] a := hA.sub ((.cons rfl .nil))
      refine Ends.ret1 Tryd.func11 Tryd.results11 hA rfl ?_
      exact ⟨rfl, hM.nilL.below⟩
theorem digitLines_any (s : ByteArray) (_hs : s.size ≤ maxLen) (w : World) (htab : Lib.TabIs Tryd.prog w "internal/strconv.uint64pow10" .u64 Lib.pow10Tab) : Calls Tryd.prog 11 #[.string s] w fun e w' => e = .returned (.bool true) ∧ Below w.heap.size w w' := digitLines_w s w htab
end Go.Proofs.YtdbbigjoloinpaaDoor
