/-
  ParseTells, part 6 of 6: what the code computes, and plain laws; no condition beside those that each theorem tells.
-/
import Derived.Test.YtakfcekfmdjklaaDoorParseTellsE
namespace Go.Proofs.YtakfcekfmdjklaaDoor
open Go.RowKit
set_option maxRecDepth 100000 in
set_option maxHeartbeats 4000000 in
theorem rparse06_FU (s : ByteArray) (hs : s.size ≤ 9223372036854775807) (X : List Tok) (p0 e0 : Int) (hse : scan s = (X, p0, e0)) (hcs : (X.getD 0 tz).x ≠ ⟨#[75, 78, 65, 80, 83, 65, 67, 75]⟩ ∧ (X.getD 0 tz).x ≠ ⟨#[65, 83, 83, 73, 71, 78, 77, 69, 78, 84]⟩ ∧ (X.getD 2 tz).x = ⟨#[70, 85, 76, 76]⟩) (w : World) :
  Calls Tryd.prog 29 #[.string s] w fun e w' => ∃ a3 c3 a4 c4 a5 c5, e = .returned (.tuple #[.agg #[.int .i64 (prs s).1.kind, .int .i64 (prs s).1.n, .int .i64 (prs s).1.cap, .slice a3 (prs s).1.wt.length c3, .slice a4 (prs s).1.vl.length c4, .slice a5 (prs s).1.cost.length c5], .int .i64 (prs s).2.1, .int .i64 (prs s).2.2]) ∧ (IntSl w' (.slice a3 (prs s).1.wt.length c3) (prs s).1.wt ∧ IntSl w' (.slice a4 (prs s).1.vl.length c4) (prs s).1.vl ∧ RowsV w' (.slice a5 (prs s).1.cost.length c5) (prs s).1.cost) ∧ Below w.heap.size w w' := by
 have hbs := Below.refl (B := w.heap.size) w
 have hM := Mem.start w
 refine Calls.of_ends (vs := [.string s]) Tryd.func29 rfl Tryd.ntmps29 rfl ?_
 intro a hA
 replace hA : St 303 [(0, _)] a := hA
 refine Ends.seq (Ends.region ?_)
 refine S.alloc hA hM info25 rfl rfl ?_; clear hA hM a; intro b1 w1 hb2 hM a hA
 replace hM : Mem _ _ [pt b1 cz0 25] _ := hM
 refine S.val hA (R.assign rfl) rfl ?_; clear hA a; intro a hA
 refine S.val hA (R.assign rfl) rfl ?_; clear hA a; intro a hA
 refine S.done ?_
 refine Ends.seq (Ends.region ?_)
 refine S.val hA (R.build (cells := cz0) rfl (by kernel_rfl)) rfl ?_; clear hA a; intro a hA
 refine S.alloc hA hM info25 rfl rfl ?_; clear hA hM a; intro b3 w2 hb4 hM a hA
 replace hM : Mem _ _ [pt b3 cz0 25, pt b1 cz0 25] _ := hM
 refine S.storeA (k := 0) hA hM sz25 rfl rfl rfl rfl rfl rfl ?_; clear hM
 intro w3 hM
 replace hM : Mem _ _ [pt b3 cz0 25, pt b1 cz0 25] _ := hM
 refine S.done ?_
 refine Ends.seq (Ends.region ?_)
 refine S.val hA (R.move rfl) rfl ?_; clear hA a; intro a hA
 have hlen : X.length ≤ 1000000 := by have h9 := scan_len s; rw [hse] at h9; exact h9
 refine S.call hA (R.callF Tryd.func49 rfl rfl rfl) rfl (rscan_eq s (by omega) X p0 e0 hse _) ?_; clear hA a
 rintro e w4 ⟨a5, c6, rfl, hn⟩
 replace hM : Mem _ _ [own 69 4 (.slice a5 X.length c6) X.length (tokv X), pt b3 cz0 25, pt b1 cz0 25] _ := hM.call hn; clear hn
 refine ⟨.tuple #[.slice a5 X.length c6, .int .i64 p0, .int .i64 e0], rfl, fun a hA => ?_⟩
 refine S.val hA (R.move rfl) rfl ?_; clear hA a; intro a hA
 refine S.val hA (R.extract (v := .slice a5 X.length c6) rfl rfl) rfl ?_; clear hA a; intro a hA
 refine S.val hA (R.extract (v := .int .i64 p0) rfl rfl) rfl ?_; clear hA a; intro a hA
 refine S.val hA (R.extract (v := .int .i64 e0) rfl rfl) rfl ?_; clear hA a; intro a hA
 refine S.val hA (R.assign rfl) rfl ?_; clear hA a; intro a hA
 refine S.val hA (R.assign rfl) rfl ?_; clear hA a; intro a hA
 refine S.val hA (R.assign rfl) rfl ?_; clear hA a; intro a hA
 refine S.done ?_
 replace hA : St 303 [(2, _), (5, _), (6, _), (7, _), (8, _)] a := hA.sub ((.cons rfl (.cons rfl (.cons rfl (.cons rfl (.cons rfl .nil))))))
 refine Ends.seq (Ends.seq (Ends.region ?_))
 refine S.val hA (R.move rfl) rfl ?_; clear hA a; intro a hA
 refine S.val hA (R.neq rfl rfl) rfl ?_; clear hA a; intro a hA
 refine S.done ?_
 refine Ends.ite hA rfl (fun hc7 => ?_) (fun hc7 => ?_)
 ·
  refine Ends.seq (Ends.region ?_)
  refine S.val hA (R.loadA sz25 rfl (hM.range (k := 1) rfl) rfl) rfl ?_; clear hA a; intro a hA
  refine S.val hA (R.move rfl) rfl ?_; clear hA a; intro a hA
  refine S.val hA (R.move rfl) rfl ?_; clear hA a; intro a hA
  refine S.storeA (k := 2) hA hM sz25 rfl rfl rfl rfl rfl rfl ?_; clear hM
  intro w5 hM
  replace hM : Mem _ _ [own 69 4 (.slice a5 X.length c6) X.length (tokv X), pt b3 cz0 25, pt b1 cz0 25] _ := hM
  refine S.val hA (R.assign rfl) rfl ?_; clear hA a; intro a hA
  refine S.val hA (R.assign rfl) rfl ?_; clear hA a; intro a hA
  refine S.done ?_
  replace hA : St 303 [(2, _), (3, _), (4, _), (5, _), (6, _)] a := hA.sub ((.cons rfl (.cons rfl (.cons rfl (.cons rfl (.cons rfl .nil))))))
  refine Ends.retC3 (k := 2) Tryd.func29 Tryd.results29 hA hM rfl rfl rfl rfl sz25 rfl ?_
  rw [prs_scan' hse hc7]
  exact ⟨none, 0, none, 0, none, 0, rfl, nilI _, Mem.trans0 hbs hM.nilL⟩
 ·
  have hs0 := Decidable.not_not.1 hc7
  have hX : Toks X := by have h9 := scan_toks (s := s) (by rw [hse]; exact hs0) (by rw [hse]; exact hlen); rw [hse] at h9; exact h9
  have hX0 := hX.pos
  obtain ⟨g8, hg8⟩ := hM.ownAt (k := 0) rfl hX.pos
  subst hg8
  replace hM : Mem _ _ [own 69 4 (.slice (some ⟨g8, 0, none⟩) X.length c6) X.length (tokv X), pt b3 cz0 25, pt b1 cz0 25] _ := hM
  refine Ends.skip (Ends.seq (Ends.seq (Ends.region ?_)))
  refine S.val hA (R.move rfl) rfl ?_; clear hA a; intro a hA
  refine S.val hA (R.indexAddr (q := 0 * 4) sl65 rfl rfl (by first | omega | (rw [nmI_len]; omega) | (simp only [nmI_len]; omega)) (by first | omega | (rw [nmI_len]; omega) | (simp only [nmI_len]; omega))) rfl ?_; clear hA a; intro a hA
  refine S.val hA (R.fieldAddr (q := 0 * 4 + 0) fi69_0 rfl rfl rfl) rfl ?_; clear hA a; intro a hA
  refine S.val hA (R.load sz3 rfl (hM.tokRow (k := 0) rfl (i := 0) (by omega) 0 _ rfl)) rfl ?_; clear hA a; intro a hA
  refine S.val hA (R.eql rfl rfl) rfl ?_; clear hA a; intro a hA
  refine S.done ?_
  replace hA : St 303 [(2, _), (5, _), (6, _), (38, _)] a := hA.sub ((.cons rfl (.cons rfl (.cons rfl (.cons rfl .nil)))))
  refine Ends.ite hA rfl (fun hc9 => ?_) (fun hc9 => ?_)
  ·
   refine Ends.seq ?_
   refine Ends.drawn (Mem w nof [own 69 4 (.slice (some ⟨g8, 0, none⟩) X.length c6) X.length (tokv X), pt b3 cz0 25]) (.cons (0, true) (.cons (1, true) (.cons (2, true) (.cons (3, true) (.cons (4, true) (.cons (5, false) (.cons (6, true) (.cons (7, true) .nil)))))))) 8 mixed (by kernel_rfl) (by kernel_rfl) (by kernel_rfl) (hM.drop 2).drew ?_
   replace hM := hM.drew
   refine D.val hA rfl (by kernel_rfl) (fun _ hM => R.loadA sz25 rfl (hM.range (k := 1) rfl) rfl) rfl ?_; clear hA a; intro a hA
   refine D.valF hA rfl (fun _ => R.move rfl) rfl ?_; clear hA a; intro a hA
   refine D.valF hA rfl (fun _ => R.indexAddr (q := 0 * 4) sl65 rfl rfl (by first | omega | (rw [nmI_len]; omega) | (simp only [nmI_len]; omega)) (by first | omega | (rw [nmI_len]; omega) | (simp only [nmI_len]; omega))) rfl ?_; clear hA a; intro a hA
   refine D.valF hA rfl (fun _ => R.fieldAddr (q := 0 * 4 + 3) fi69_3 rfl rfl rfl) rfl ?_; clear hA a; intro a hA
   refine D.val hA rfl (by kernel_rfl) (fun _ hM => R.load sz3 rfl (hM.tokRow (k := 0) rfl (i := 0) (by omega) 3 _ rfl)) rfl ?_; clear hA a; intro a hA
   refine D.storeA (k := 2) hA hM rfl sz25 rfl rfl rfl rfl rfl rfl ?_; clear hM
   intro w6 hM; refine ⟨fun _ _ => (hM.drop 2), ?_⟩
   replace hM : Mem _ _ [own 69 4 (.slice (some ⟨g8, 0, none⟩) X.length c6) X.length (tokv X), pt b3 cz0 25, pt b1 cz0 25] _ := hM
   refine D.valF hA rfl (fun _ => R.assign rfl) rfl ?_; clear hA a; intro a hA
   refine D.valF hA rfl (fun _ => R.assign rfl) rfl ?_; clear hA a; intro a hA
   refine D.done ?_
   replace hA : St 303 [(2, _), (3, _), (4, _), (5, _), (6, _)] a := hA.sub ((.cons rfl (.cons rfl (.cons rfl (.cons rfl (.cons rfl .nil))))))
   refine Ends.retC3 (k := 2) Tryd.func29 Tryd.results29 hA hM rfl rfl rfl rfl sz25 rfl ?_
   have hpb : pbR X = (6, 0) := pb_w (wordR_end hc9) (by decide)
   rw [prs_bad' hse hs0 hpb (by decide)]
   exact ⟨none, 0, none, 0, none, 0, rfl, nilI _, Mem.trans0 hbs hM.nilL⟩
  ·
   have k03 : ¬ (X.getD 0 tz).k = 3 := hc9
   have hj1 := hX.next 0 hX0 k03
   refine Ends.skip (Ends.seq (Ends.region ?_))
   refine S.val hA (R.move rfl) rfl ?_; clear hA a; intro a hA
   refine S.val hA (R.indexAddr (q := 0 * 4) sl65 rfl rfl (by first | omega | (rw [nmI_len]; omega) | (simp only [nmI_len]; omega)) (by first | omega | (rw [nmI_len]; omega) | (simp only [nmI_len]; omega))) rfl ?_; clear hA a; intro a hA
   refine S.val hA (R.fieldAddr (q := 0 * 4 + 1) fi69_1 rfl rfl rfl) rfl ?_; clear hA a; intro a hA
   refine S.val hA (R.load sz9 rfl (hM.tokRow (k := 0) rfl (i := 0) (by omega) 1 _ rfl)) rfl ?_; clear hA a; intro a hA
   refine S.val hA (R.assign rfl) rfl ?_; clear hA a; intro a hA
   refine S.done ?_
   replace hA : St 303 [(2, _), (5, _), (6, _), (9, _)] a := hA.sub ((.cons rfl (.cons rfl (.cons rfl (.cons rfl .nil)))))
   refine Ends.seq (Ends.seq ?_)
   refine Ends.cut (fun (a : Act) (wv : World) => St 303 [(2, .pointer (some ⟨b1, 0, none⟩)), (5, .pointer (some ⟨b3, 0, none⟩)), (6, .slice (some ⟨g8, 0, none⟩) X.length c6), (9, .string ((X.getD 0 tz).x)), (64, .bool (decide ((((X.getD 0 tz).k) = 2 ∨ (((X.getD 0 tz).x ≠ ⟨#[75, 78, 65, 80, 83, 65, 67, 75]⟩ ∧ (X.getD 0 tz).x ≠ ⟨#[65, 83, 83, 73, 71, 78, 77, 69, 78, 84]⟩) ∧ (X.getD 0 tz).x ≠ ⟨#[84, 83, 80]⟩)))))] a ∧ Mem w nof [own 69 4 (.slice (some ⟨g8, 0, none⟩) X.length c6) X.length (tokv X), pt b3 cz0 25, pt b1 cz0 25] wv) ?_ (fun k2 hJ => ?_)
   ·
    clear hA hM a; rintro a w7 ⟨hA, hM⟩
    refine Ends.ite hA rfl (fun hc10 => ?_) (fun hc10 => ?_)
    ·
     refine Ends.seq ?_
     refine Ends.drawn (Mem w nof [own 69 4 (.slice (some ⟨g8, 0, none⟩) X.length c6) X.length (tokv X), pt b3 cz0 25]) (.cons (0, true) (.cons (1, true) (.cons (2, true) (.cons (3, true) (.cons (4, true) (.cons (5, false) (.cons (6, true) (.cons (7, true) .nil)))))))) 8 mixed (by kernel_rfl) (by kernel_rfl) (by kernel_rfl) (hM.drop 2).drew ?_
     replace hM := hM.drew
     refine D.val hA rfl (by kernel_rfl) (fun _ hM => R.loadA sz25 rfl (hM.range (k := 1) rfl) rfl) rfl ?_; clear hA a; intro a hA
     refine D.valF hA rfl (fun _ => R.move rfl) rfl ?_; clear hA a; intro a hA
     refine D.valF hA rfl (fun _ => R.indexAddr (q := 0 * 4) sl65 rfl rfl (by first | omega | (rw [nmI_len]; omega) | (simp only [nmI_len]; omega)) (by first | omega | (rw [nmI_len]; omega) | (simp only [nmI_len]; omega))) rfl ?_; clear hA a; intro a hA
     refine D.valF hA rfl (fun _ => R.fieldAddr (q := 0 * 4 + 3) fi69_3 rfl rfl rfl) rfl ?_; clear hA a; intro a hA
     refine D.val hA rfl (by kernel_rfl) (fun _ hM => R.load sz3 rfl (hM.tokRow (k := 0) rfl (i := 0) (by omega) 3 _ rfl)) rfl ?_; clear hA a; intro a hA
     refine D.storeA (k := 2) hA hM rfl sz25 rfl rfl rfl rfl rfl rfl ?_; clear hM
     intro w8 hM; refine ⟨fun _ _ => (hM.drop 2), ?_⟩
     replace hM : Mem _ _ [own 69 4 (.slice (some ⟨g8, 0, none⟩) X.length c6) X.length (tokv X), pt b3 cz0 25, pt b1 cz0 25] _ := hM
     refine D.valF hA rfl (fun _ => R.assign rfl) rfl ?_; clear hA a; intro a hA
     refine D.valF hA rfl (fun _ => R.assign rfl) rfl ?_; clear hA a; intro a hA
     refine D.done ?_
     replace hA : St 303 [(2, _), (3, _), (4, _), (5, _), (6, _), (9, _)] a := hA.sub ((.cons rfl (.cons rfl (.cons rfl (.cons rfl (.cons rfl (.cons rfl .nil)))))))
     refine Ends.retC3 (k := 2) Tryd.func29 Tryd.results29 hA hM rfl rfl rfl rfl sz25 rfl ?_
     have hpb : pbR X = (3, 0) := pb_w (w3_no k03 (by have h9 := hc10; simp only [wKN, wAS, wTS]; exact h9.imp_right fun g => ⟨g.1.1, g.1.2, g.2⟩)) (by decide)
     rw [prs_bad' hse hs0 hpb (by decide)]
     exact ⟨none, 0, none, 0, none, 0, rfl, nilI _, Mem.trans0 hbs hM.nilL⟩
    ·
     have hnw := hc10
     refine Ends.skip (Ends.seq (Ends.seq ?_))
     have hts : (X.getD 0 tz).x = ⟨#[84, 83, 80]⟩ := Classical.byContradiction fun h9 => hnw (.inr ⟨⟨hcs.1, hcs.2.1⟩, h9⟩)
     have hk01 := hX.one hX0 k03 hts (by decide)
     have hw0 := w3_ts hk01 hts
     rw [hts] at hA
     refine Ends.region ?_
     refine S.val hA (R.move rfl) rfl ?_; clear hA a; intro a hA
     refine S.val hA (R.indexAddr (q := 1 * 4) sl65 rfl rfl (by first | omega | (rw [nmI_len]; omega) | (simp only [nmI_len]; omega)) (by first | omega | (rw [nmI_len]; omega) | (simp only [nmI_len]; omega))) rfl ?_; clear hA a; intro a hA
     refine S.val hA (R.fieldAddr (q := 1 * 4 + 0) fi69_0 rfl rfl rfl) rfl ?_; clear hA a; intro a hA
     refine S.val hA (R.load sz3 rfl (hM.tokRow (k := 0) rfl (i := 1) (by omega) 0 _ rfl)) rfl ?_; clear hA a; intro a hA
     refine S.val hA (R.eql rfl rfl) rfl ?_; clear hA a; intro a hA
     refine S.done ?_
     replace hA : St 303 [(2, _), (5, _), (6, _), (9, _), (74, _)] a := hA.sub ((.cons rfl (.cons rfl (.cons rfl (.cons rfl (.cons rfl .nil))))))
     refine Ends.ite hA rfl (fun hc11 => ?_) (fun hc11 => ?_)
     ·
      refine Ends.seq ?_
      refine Ends.drawn (Mem w nof [own 69 4 (.slice (some ⟨g8, 0, none⟩) X.length c6) X.length (tokv X), pt b3 cz0 25]) (.cons (0, true) (.cons (1, true) (.cons (2, true) (.cons (3, true) (.cons (4, true) (.cons (5, false) (.cons (6, true) (.cons (7, true) .nil)))))))) 8 mixed (by kernel_rfl) (by kernel_rfl) (by kernel_rfl) (hM.drop 2).drew ?_
      replace hM := hM.drew
      refine D.val hA rfl (by kernel_rfl) (fun _ hM => R.loadA sz25 rfl (hM.range (k := 1) rfl) rfl) rfl ?_; clear hA a; intro a hA
      refine D.valF hA rfl (fun _ => R.move rfl) rfl ?_; clear hA a; intro a hA
      refine D.valF hA rfl (fun _ => R.indexAddr (q := 1 * 4) sl65 rfl rfl (by first | omega | (rw [nmI_len]; omega) | (simp only [nmI_len]; omega)) (by first | omega | (rw [nmI_len]; omega) | (simp only [nmI_len]; omega))) rfl ?_; clear hA a; intro a hA
      refine D.valF hA rfl (fun _ => R.fieldAddr (q := 1 * 4 + 3) fi69_3 rfl rfl rfl) rfl ?_; clear hA a; intro a hA
      refine D.val hA rfl (by kernel_rfl) (fun _ hM => R.load sz3 rfl (hM.tokRow (k := 0) rfl (i := 1) (by omega) 3 _ rfl)) rfl ?_; clear hA a; intro a hA
      refine D.storeA (k := 2) hA hM rfl sz25 rfl rfl rfl rfl rfl rfl ?_; clear hM
      intro w9 hM; refine ⟨fun _ _ => (hM.drop 2), ?_⟩
      replace hM : Mem _ _ [own 69 4 (.slice (some ⟨g8, 0, none⟩) X.length c6) X.length (tokv X), pt b3 cz0 25, pt b1 cz0 25] _ := hM
      refine D.valF hA rfl (fun _ => R.assign rfl) rfl ?_; clear hA a; intro a hA
      refine D.valF hA rfl (fun _ => R.assign rfl) rfl ?_; clear hA a; intro a hA
      refine D.done ?_
      replace hA : St 303 [(2, _), (3, _), (4, _), (5, _), (6, _), (9, _)] a := hA.sub ((.cons rfl (.cons rfl (.cons rfl (.cons rfl (.cons rfl (.cons rfl .nil)))))))
      refine Ends.retC3 (k := 2) Tryd.func29 Tryd.results29 hA hM rfl rfl rfl rfl sz25 rfl ?_
      have hpb : pbR X = (6, 1) := pb_b hw0 rfl (bodR_cnt3 (c := 6) (cnt_6 hc11) (by decide)) (by decide)
      rw [prs_bad' hse hs0 hpb (by decide)]
      exact ⟨none, 0, none, 0, none, 0, rfl, nilI _, Mem.trans0 hbs hM.nilL⟩
     ·
      have k13 : ¬ (X.getD 1 tz).k = 3 := hc11
      have hj2 := hX.next 1 hj1 k13
      refine Ends.skip (Ends.seq (Ends.seq (Ends.region ?_)))
      refine S.val hA (R.move rfl) rfl ?_; clear hA a; intro a hA
      refine S.val hA (R.indexAddr (q := 1 * 4) sl65 rfl rfl (by first | omega | (rw [nmI_len]; omega) | (simp only [nmI_len]; omega)) (by first | omega | (rw [nmI_len]; omega) | (simp only [nmI_len]; omega))) rfl ?_; clear hA a; intro a hA
      refine S.val hA (R.fieldAddr (q := 1 * 4 + 0) fi69_0 rfl rfl rfl) rfl ?_; clear hA a; intro a hA
      refine S.val hA (R.load sz3 rfl (hM.tokRow (k := 0) rfl (i := 1) (by omega) 0 _ rfl)) rfl ?_; clear hA a; intro a hA
      refine S.val hA (R.eql rfl rfl) rfl ?_; clear hA a; intro a hA
      refine S.done ?_
      replace hA : St 303 [(2, _), (5, _), (6, _), (9, _), (84, _)] a := hA.sub ((.cons rfl (.cons rfl (.cons rfl (.cons rfl (.cons rfl .nil))))))
      refine Ends.ite hA rfl (fun hc12 => ?_) (fun hc12 => ?_)
      ·
       refine Ends.seq ?_
       refine Ends.drawn (Mem w nof [own 69 4 (.slice (some ⟨g8, 0, none⟩) X.length c6) X.length (tokv X), pt b3 cz0 25]) (.cons (0, true) (.cons (1, true) (.cons (2, true) (.cons (3, true) (.cons (4, true) (.cons (5, false) (.cons (6, true) (.cons (7, true) .nil)))))))) 8 mixed (by kernel_rfl) (by kernel_rfl) (by kernel_rfl) (hM.drop 2).drew ?_
       replace hM := hM.drew
       refine D.val hA rfl (by kernel_rfl) (fun _ hM => R.loadA sz25 rfl (hM.range (k := 1) rfl) rfl) rfl ?_; clear hA a; intro a hA
       refine D.valF hA rfl (fun _ => R.move rfl) rfl ?_; clear hA a; intro a hA
       refine D.valF hA rfl (fun _ => R.indexAddr (q := 1 * 4) sl65 rfl rfl (by first | omega | (rw [nmI_len]; omega) | (simp only [nmI_len]; omega)) (by first | omega | (rw [nmI_len]; omega) | (simp only [nmI_len]; omega))) rfl ?_; clear hA a; intro a hA
       refine D.valF hA rfl (fun _ => R.fieldAddr (q := 1 * 4 + 3) fi69_3 rfl rfl rfl) rfl ?_; clear hA a; intro a hA
       refine D.val hA rfl (by kernel_rfl) (fun _ hM => R.load sz3 rfl (hM.tokRow (k := 0) rfl (i := 1) (by omega) 3 _ rfl)) rfl ?_; clear hA a; intro a hA
       refine D.storeA (k := 2) hA hM rfl sz25 rfl rfl rfl rfl rfl rfl ?_; clear hM
       intro w10 hM; refine ⟨fun _ _ => (hM.drop 2), ?_⟩
       replace hM : Mem _ _ [own 69 4 (.slice (some ⟨g8, 0, none⟩) X.length c6) X.length (tokv X), pt b3 cz0 25, pt b1 cz0 25] _ := hM
       refine D.valF hA rfl (fun _ => R.assign rfl) rfl ?_; clear hA a; intro a hA
       refine D.valF hA rfl (fun _ => R.assign rfl) rfl ?_; clear hA a; intro a hA
       refine D.done ?_
       replace hA : St 303 [(2, _), (3, _), (4, _), (5, _), (6, _), (9, _)] a := hA.sub ((.cons rfl (.cons rfl (.cons rfl (.cons rfl (.cons rfl (.cons rfl .nil)))))))
       refine Ends.retC3 (k := 2) Tryd.func29 Tryd.results29 hA hM rfl rfl rfl rfl sz25 rfl ?_
       have hpb : pbR X = (4, 1) := pb_b hw0 rfl (bodR_cnt3 (c := 4) (cnt_4 k13 hc12) (by decide)) (by decide)
       rw [prs_bad' hse hs0 hpb (by decide)]
       exact ⟨none, 0, none, 0, none, 0, rfl, nilI _, Mem.trans0 hbs hM.nilL⟩
      ·
       have k11 : ¬ (X.getD 1 tz).k = 1 := hc12
       refine Ends.skip (Ends.seq (Ends.region ?_))
       refine S.val hA (R.move rfl) rfl ?_; clear hA a; intro a hA
       refine S.val hA (R.indexAddr (q := 1 * 4) sl65 rfl rfl (by first | omega | (rw [nmI_len]; omega) | (simp only [nmI_len]; omega)) (by first | omega | (rw [nmI_len]; omega) | (simp only [nmI_len]; omega))) rfl ?_; clear hA a; intro a hA
       refine S.val hA (R.fieldAddr (q := 1 * 4 + 2) fi69_2 rfl rfl rfl) rfl ?_; clear hA a; intro a hA
       refine S.val hA (R.load sz3 rfl (hM.tokRow (k := 0) rfl (i := 1) (by omega) 2 _ rfl)) rfl ?_; clear hA a; intro a hA
       refine S.val hA (R.assign rfl) rfl ?_; clear hA a; intro a hA
       refine S.val hA (R.assign rfl) rfl ?_; clear hA a; intro a hA
       refine S.done ?_
       replace hA : St 303 [(2, _), (5, _), (6, _), (9, _), (10, _), (11, _)] a := hA.sub ((.cons rfl (.cons rfl (.cons rfl (.cons rfl (.cons rfl (.cons rfl .nil)))))))
       refine Ends.seq (Ends.seq (Ends.region ?_))
       refine S.val hA (R.move rfl) rfl ?_; clear hA a; intro a hA
       refine S.val hA (R.ff (R.eqlStr rfl rfl) (by first | decide | simp | omega)) rfl ?_; clear hA a; intro a hA
       refine S.done ?_
       refine Ends.condF hA rfl ?_
       refine Ends.skip (Ends.seq (Ends.seq (Ends.region ?_)))
       refine S.val hA (R.move rfl) rfl ?_; clear hA a; intro a hA
       refine S.val hA (R.eql rfl rfl) rfl ?_; clear hA a; intro a hA
       refine S.done ?_
       refine Ends.ite hA rfl (fun hc13 => ?_) (fun hc13 => ?_)
       ·
        refine Ends.seq ?_
        refine Ends.drawn (Mem w nof [own 69 4 (.slice (some ⟨g8, 0, none⟩) X.length c6) X.length (tokv X), pt b3 cz0 25]) (.cons (0, true) (.cons (1, true) (.cons (2, true) (.cons (3, true) (.cons (4, true) (.cons (5, false) (.cons (6, true) (.cons (7, true) .nil)))))))) 8 mixed (by kernel_rfl) (by kernel_rfl) (by kernel_rfl) (hM.drop 2).drew ?_
        replace hM := hM.drew
        refine D.val hA rfl (by kernel_rfl) (fun _ hM => R.loadA sz25 rfl (hM.range (k := 1) rfl) rfl) rfl ?_; clear hA a; intro a hA
        refine D.valF hA rfl (fun _ => R.move rfl) rfl ?_; clear hA a; intro a hA
        refine D.valF hA rfl (fun _ => R.indexAddr (q := 1 * 4) sl65 rfl rfl (by first | omega | (rw [nmI_len]; omega) | (simp only [nmI_len]; omega)) (by first | omega | (rw [nmI_len]; omega) | (simp only [nmI_len]; omega))) rfl ?_; clear hA a; intro a hA
        refine D.valF hA rfl (fun _ => R.fieldAddr (q := 1 * 4 + 3) fi69_3 rfl rfl rfl) rfl ?_; clear hA a; intro a hA
        refine D.val hA rfl (by kernel_rfl) (fun _ hM => R.load sz3 rfl (hM.tokRow (k := 0) rfl (i := 1) (by omega) 3 _ rfl)) rfl ?_; clear hA a; intro a hA
        refine D.storeA (k := 2) hA hM rfl sz25 rfl rfl rfl rfl rfl rfl ?_; clear hM
        intro w11 hM; refine ⟨fun _ _ => (hM.drop 2), ?_⟩
        replace hM : Mem _ _ [own 69 4 (.slice (some ⟨g8, 0, none⟩) X.length c6) X.length (tokv X), pt b3 cz0 25, pt b1 cz0 25] _ := hM
        refine D.valF hA rfl (fun _ => R.assign rfl) rfl ?_; clear hA a; intro a hA
        refine D.valF hA rfl (fun _ => R.assign rfl) rfl ?_; clear hA a; intro a hA
        refine D.done ?_
        replace hA : St 303 [(2, _), (3, _), (4, _), (5, _), (6, _), (9, _), (10, _), (11, _)] a := hA.sub ((.cons rfl (.cons rfl (.cons rfl (.cons rfl (.cons rfl (.cons rfl (.cons rfl (.cons rfl .nil)))))))))
        refine Ends.retC3 (k := 2) Tryd.func29 Tryd.results29 hA hM rfl rfl rfl rfl sz25 rfl ?_
        have hpb : pbR X = (1, 1) := pb_b hw0 rfl (bodR_cnt3 (c := 1) (cnt_1 k13 k11 hc13 (by decide)) (by decide)) (by decide)
        rw [prs_bad' hse hs0 hpb (by decide)]
        exact ⟨none, 0, none, 0, none, 0, rfl, nilI _, Mem.trans0 hbs hM.nilL⟩
       ·
        have n10 : ¬ (X.getD 1 tz).n = 0 := hc13
        refine Ends.skip (Ends.seq (Ends.seq (Ends.region ?_)))
        refine S.val hA (R.move rfl) rfl ?_; clear hA a; intro a hA
        refine S.val hA (R.move rfl) rfl ?_; clear hA a; intro a hA
        refine S.val hA (R.gtr rfl rfl) rfl ?_; clear hA a; intro a hA
        refine S.done ?_
        replace hA : St 303 [(2, _), (5, _), (6, _), (9, _), (10, _), (105, _)] a := hA.sub ((.cons rfl (.cons rfl (.cons rfl (.cons rfl (.cons rfl (.cons rfl .nil)))))))
        refine Ends.ite hA rfl (fun hc14 => ?_) (fun hc14 => ?_)
        ·
         refine Ends.seq ?_
         refine Ends.drawn (Mem w nof [own 69 4 (.slice (some ⟨g8, 0, none⟩) X.length c6) X.length (tokv X), pt b3 cz0 25]) (.cons (0, true) (.cons (1, true) (.cons (2, true) (.cons (3, true) (.cons (4, true) (.cons (5, false) (.cons (6, true) (.cons (7, true) .nil)))))))) 8 mixed (by kernel_rfl) (by kernel_rfl) (by kernel_rfl) (hM.drop 2).drew ?_
         replace hM := hM.drew
         refine D.val hA rfl (by kernel_rfl) (fun _ hM => R.loadA sz25 rfl (hM.range (k := 1) rfl) rfl) rfl ?_; clear hA a; intro a hA
         refine D.valF hA rfl (fun _ => R.move rfl) rfl ?_; clear hA a; intro a hA
         refine D.valF hA rfl (fun _ => R.indexAddr (q := 1 * 4) sl65 rfl rfl (by first | omega | (rw [nmI_len]; omega) | (simp only [nmI_len]; omega)) (by first | omega | (rw [nmI_len]; omega) | (simp only [nmI_len]; omega))) rfl ?_; clear hA a; intro a hA
         refine D.valF hA rfl (fun _ => R.fieldAddr (q := 1 * 4 + 3) fi69_3 rfl rfl rfl) rfl ?_; clear hA a; intro a hA
         refine D.val hA rfl (by kernel_rfl) (fun _ hM => R.load sz3 rfl (hM.tokRow (k := 0) rfl (i := 1) (by omega) 3 _ rfl)) rfl ?_; clear hA a; intro a hA
         refine D.storeA (k := 2) hA hM rfl sz25 rfl rfl rfl rfl rfl rfl ?_; clear hM
         intro w12 hM; refine ⟨fun _ _ => (hM.drop 2), ?_⟩
         replace hM : Mem _ _ [own 69 4 (.slice (some ⟨g8, 0, none⟩) X.length c6) X.length (tokv X), pt b3 cz0 25, pt b1 cz0 25] _ := hM
         refine D.valF hA rfl (fun _ => R.assign rfl) rfl ?_; clear hA a; intro a hA
         refine D.valF hA rfl (fun _ => R.assign rfl) rfl ?_; clear hA a; intro a hA
         refine D.done ?_
         replace hA : St 303 [(2, _), (3, _), (4, _), (5, _), (6, _), (9, _), (10, _)] a := hA.sub ((.cons rfl (.cons rfl (.cons rfl (.cons rfl (.cons rfl (.cons rfl (.cons rfl .nil))))))))
         refine Ends.retC3 (k := 2) Tryd.func29 Tryd.results29 hA hM rfl rfl rfl rfl sz25 rfl ?_
         have hpb : pbR X = (5, 1) := pb_b hw0 rfl (bodR_cnt3 (c := 5) (cnt_5 k13 k11 hc14) (by decide)) (by decide)
         rw [prs_bad' hse hs0 hpb (by decide)]
         exact ⟨none, 0, none, 0, none, 0, rfl, nilI _, Mem.trans0 hbs hM.nilL⟩
        ·
         have n1m : ¬ 24 < (X.getD 1 tz).n := hc14
         have hn1_ := hX.num 1
         obtain ⟨n, hn⟩ : ∃ n : Nat, (X.getD 1 tz).n = (n : Int) := ⟨(X.getD 1 tz).n.toNat, by omega⟩
         obtain ⟨hc0, hc1⟩ := cnt_0 k13 k11 n1m n10
         have hcn : ctN X 1 24 = n := by unfold ctN; rw [hc1, hn]; rfl
         have hn1 : 1 ≤ n := by omega
         have hn64 : n ≤ 24 := by omega
         rw [hn] at hA
         refine Ends.skip (Ends.seq (Ends.region ?_))
         refine S.val hA (R.move rfl) rfl ?_; clear hA a; intro a hA
         refine S.val hA (R.build (cells := #[.int .i64 1, .int .i64 ((n : Int)), .int .i64 0, .slice none 0 0, .slice none 0 0, .slice none 0 0]) rfl (by kernel_rfl)) rfl ?_; clear hA a; intro a hA
         refine S.alloc hA hM info25 rfl rfl ?_; clear hA hM a; intro b15 w13 hb16 hM a hA
         replace hM : Mem _ _ [pt b15 cz0 25, own 69 4 (.slice (some ⟨g8, 0, none⟩) X.length c6) X.length (tokv X), pt b3 cz0 25, pt b1 cz0 25] _ := hM
         refine S.storeA (k := 0) hA hM sz25 rfl rfl rfl rfl rfl rfl ?_; clear hM
         intro w14 hM
         replace hM : Mem _ _ [pt b15 #[.int .i64 1, .int .i64 ((n : Int)), .int .i64 0, .slice none 0 0, .slice none 0 0, .slice none 0 0] 25, own 69 4 (.slice (some ⟨g8, 0, none⟩) X.length c6) X.length (tokv X), pt b3 cz0 25, pt b1 cz0 25] _ := hM
         refine S.done ?_
         refine Ends.seq (Ends.region ?_)
         refine S.val hA (R.assign rfl) rfl ?_; clear hA a; intro a hA
         refine S.done ?_
         refine Ends.seq (Ends.seq (Ends.region ?_))
         refine S.val hA (R.move rfl) rfl ?_; clear hA a; intro a hA
         refine S.val hA (R.ff (R.eqlStr rfl rfl) (by first | decide | simp | omega)) rfl ?_; clear hA a; intro a hA
         refine S.done ?_
         replace hA : St 303 [(2, _), (5, _), (6, _), (9, _), (10, _), (12, _), (13, _), (114, _)] a := hA.sub ((.cons rfl (.cons rfl (.cons rfl (.cons rfl (.cons rfl (.cons rfl (.cons rfl (.cons rfl .nil)))))))))
         refine Ends.condF hA rfl ?_
         refine Ends.skip (Ends.seq (Ends.seq (Ends.region ?_)))
         refine S.val hA (R.move rfl) rfl ?_; clear hA a; intro a hA
         refine S.val hA (R.tt (R.eqlStr rfl rfl) (by first | decide | simp | omega)) rfl ?_; clear hA a; intro a hA
         refine S.done ?_
         refine Ends.condT hA rfl ?_
         refine Ends.seq (Ends.region ?_)
         refine S.val hA (R.fieldAddr (q := 0) fi25_0 rfl rfl rfl) rfl ?_; clear hA a; intro a hA
         refine S.store (k := 0) hA hM sz3 rfl rfl rfl rfl rfl ?_; clear hM
         intro w15 hM
         replace hM : Mem _ _ [pt b15 #[.int .i64 3, .int .i64 ((n : Int)), .int .i64 0, .slice none 0 0, .slice none 0 0, .slice none 0 0] 25, own 69 4 (.slice (some ⟨g8, 0, none⟩) X.length c6) X.length (tokv X), pt b3 cz0 25, pt b1 cz0 25] _ := hM
         refine S.done ?_
         replace hA : St 303 [(2, _), (5, _), (6, _), (10, _), (12, _)] a := hA.sub ((.cons rfl (.cons rfl (.cons rfl (.cons rfl (.cons rfl .nil))))))
         refine Ends.seq (Ends.seq (Ends.region ?_))
         refine S.val hA (R.move rfl) rfl ?_; clear hA a; intro a hA
         refine S.val hA (R.indexAddr (q := 2 * 4) sl65 rfl rfl (by first | omega | (rw [nmI_len]; omega) | (simp only [nmI_len]; omega)) (by first | omega | (rw [nmI_len]; omega) | (simp only [nmI_len]; omega))) rfl ?_; clear hA a; intro a hA
         refine S.val hA (R.fieldAddr (q := 2 * 4 + 0) fi69_0 rfl rfl rfl) rfl ?_; clear hA a; intro a hA
         refine S.val hA (R.load sz3 rfl (hM.tokRow (k := 1) rfl (i := 2) (by omega) 0 _ rfl)) rfl ?_; clear hA a; intro a hA
         refine S.val hA (R.eql rfl rfl) rfl ?_; clear hA a; intro a hA
         refine S.done ?_
         replace hA : St 303 [(2, _), (5, _), (6, _), (10, _), (12, _), (123, _)] a := hA.sub ((.cons rfl (.cons rfl (.cons rfl (.cons rfl (.cons rfl (.cons rfl .nil)))))))
         refine Ends.ite hA rfl (fun hc17 => ?_) (fun hc17 => ?_)
         ·
          refine Ends.seq ?_
          refine Ends.drawn (Mem w nof [pt b15 #[.int .i64 3, .int .i64 ((n : Int)), .int .i64 0, .slice none 0 0, .slice none 0 0, .slice none 0 0] 25, own 69 4 (.slice (some ⟨g8, 0, none⟩) X.length c6) X.length (tokv X), pt b3 cz0 25]) (.cons (0, true) (.cons (1, true) (.cons (2, true) (.cons (3, true) (.cons (4, true) (.cons (5, false) (.cons (6, true) (.cons (7, true) .nil)))))))) 8 mixed (by kernel_rfl) (by kernel_rfl) (by kernel_rfl) (hM.drop 3).drew ?_
          replace hM := hM.drew
          refine D.val hA rfl (by kernel_rfl) (fun _ hM => R.loadA sz25 rfl (hM.range (k := 2) rfl) rfl) rfl ?_; clear hA a; intro a hA
          refine D.valF hA rfl (fun _ => R.move rfl) rfl ?_; clear hA a; intro a hA
          refine D.valF hA rfl (fun _ => R.indexAddr (q := 2 * 4) sl65 rfl rfl (by first | omega | (rw [nmI_len]; omega) | (simp only [nmI_len]; omega)) (by first | omega | (rw [nmI_len]; omega) | (simp only [nmI_len]; omega))) rfl ?_; clear hA a; intro a hA
          refine D.valF hA rfl (fun _ => R.fieldAddr (q := 2 * 4 + 3) fi69_3 rfl rfl rfl) rfl ?_; clear hA a; intro a hA
          refine D.val hA rfl (by kernel_rfl) (fun _ hM => R.load sz3 rfl (hM.tokRow (k := 1) rfl (i := 2) (by omega) 3 _ rfl)) rfl ?_; clear hA a; intro a hA
          refine D.storeA (k := 3) hA hM rfl sz25 rfl rfl rfl rfl rfl rfl ?_; clear hM
          intro w16 hM; refine ⟨fun _ _ => (hM.drop 3), ?_⟩
          replace hM : Mem _ _ [pt b15 #[.int .i64 3, .int .i64 ((n : Int)), .int .i64 0, .slice none 0 0, .slice none 0 0, .slice none 0 0] 25, own 69 4 (.slice (some ⟨g8, 0, none⟩) X.length c6) X.length (tokv X), pt b3 cz0 25, pt b1 cz0 25] _ := hM
          refine D.valF hA rfl (fun _ => R.assign rfl) rfl ?_; clear hA a; intro a hA
          refine D.valF hA rfl (fun _ => R.assign rfl) rfl ?_; clear hA a; intro a hA
          refine D.done ?_
          replace hA : St 303 [(2, _), (3, _), (4, _), (5, _), (6, _), (10, _), (12, _)] a := hA.sub ((.cons rfl (.cons rfl (.cons rfl (.cons rfl (.cons rfl (.cons rfl (.cons rfl .nil))))))))
          refine Ends.retC3 (k := 3) Tryd.func29 Tryd.results29 hA hM rfl rfl rfl rfl sz25 rfl ?_
          have hpb : pbR X = (6, 2) := pb_b hw0 rfl (bod3w hc0 (wordR_end hc17) (by decide)) (by decide)
          rw [prs_bad' hse hs0 hpb (by decide)]
          exact ⟨none, 0, none, 0, none, 0, rfl, nilI _, Mem.trans0 hbs hM.nilL⟩
         ·
          have k23 : ¬ (X.getD 2 tz).k = 3 := hc17
          have hj3 := hX.next 2 hj2 k23
          refine Ends.skip (Ends.seq (Ends.region ?_))
          refine S.val hA (R.move rfl) rfl ?_; clear hA a; intro a hA
          refine S.val hA (R.indexAddr (q := 2 * 4) sl65 rfl rfl (by first | omega | (rw [nmI_len]; omega) | (simp only [nmI_len]; omega)) (by first | omega | (rw [nmI_len]; omega) | (simp only [nmI_len]; omega))) rfl ?_; clear hA a; intro a hA
          refine S.val hA (R.fieldAddr (q := 2 * 4 + 1) fi69_1 rfl rfl rfl) rfl ?_; clear hA a; intro a hA
          refine S.val hA (R.load sz9 rfl (hM.tokRow (k := 1) rfl (i := 2) (by omega) 1 _ rfl)) rfl ?_; clear hA a; intro a hA
          refine S.val hA (R.assign rfl) rfl ?_; clear hA a; intro a hA
          refine S.done ?_
          replace hA : St 303 [(2, _), (5, _), (6, _), (9, _), (10, _), (12, _)] a := hA.sub ((.cons rfl (.cons rfl (.cons rfl (.cons rfl (.cons rfl (.cons rfl .nil)))))))
          refine Ends.seq (Ends.seq ?_)
          refine Ends.cut (fun (a : Act) (wv : World) => St 303 [(2, .pointer (some ⟨b1, 0, none⟩)), (5, .pointer (some ⟨b3, 0, none⟩)), (6, .slice (some ⟨g8, 0, none⟩) X.length c6), (9, .string ((X.getD 2 tz).x)), (10, .int .i64 ((n : Int))), (12, .pointer (some ⟨b15, 0, none⟩)), (138, .bool (decide (((X.getD 2 tz).x ≠ ⟨#[70, 85, 76, 76]⟩ ∧ (X.getD 2 tz).x ≠ ⟨#[85, 80, 80, 69, 82]⟩))))] a ∧ Mem w nof [pt b15 #[.int .i64 3, .int .i64 ((n : Int)), .int .i64 0, .slice none 0 0, .slice none 0 0, .slice none 0 0] 25, own 69 4 (.slice (some ⟨g8, 0, none⟩) X.length c6) X.length (tokv X), pt b3 cz0 25, pt b1 cz0 25] wv) ?_ (fun k2 hJ => ?_)
          ·
           clear hA hM a; rintro a w17 ⟨hA, hM⟩
           refine Ends.ite hA rfl (fun hc18 => ?_) (fun hc18 => ?_)
           ·
            refine Ends.seq ?_
            refine Ends.drawn (Mem w nof [pt b15 #[.int .i64 3, .int .i64 ((n : Int)), .int .i64 0, .slice none 0 0, .slice none 0 0, .slice none 0 0] 25, own 69 4 (.slice (some ⟨g8, 0, none⟩) X.length c6) X.length (tokv X), pt b3 cz0 25]) (.cons (0, true) (.cons (1, true) (.cons (2, true) (.cons (3, true) (.cons (4, true) (.cons (5, false) (.cons (6, true) (.cons (7, true) .nil)))))))) 8 mixed (by kernel_rfl) (by kernel_rfl) (by kernel_rfl) (hM.drop 3).drew ?_
            replace hM := hM.drew
            refine D.val hA rfl (by kernel_rfl) (fun _ hM => R.loadA sz25 rfl (hM.range (k := 2) rfl) rfl) rfl ?_; clear hA a; intro a hA
            refine D.valF hA rfl (fun _ => R.move rfl) rfl ?_; clear hA a; intro a hA
            refine D.valF hA rfl (fun _ => R.indexAddr (q := 2 * 4) sl65 rfl rfl (by first | omega | (rw [nmI_len]; omega) | (simp only [nmI_len]; omega)) (by first | omega | (rw [nmI_len]; omega) | (simp only [nmI_len]; omega))) rfl ?_; clear hA a; intro a hA
            refine D.valF hA rfl (fun _ => R.fieldAddr (q := 2 * 4 + 3) fi69_3 rfl rfl rfl) rfl ?_; clear hA a; intro a hA
            refine D.val hA rfl (by kernel_rfl) (fun _ hM => R.load sz3 rfl (hM.tokRow (k := 1) rfl (i := 2) (by omega) 3 _ rfl)) rfl ?_; clear hA a; intro a hA
            refine D.storeA (k := 3) hA hM rfl sz25 rfl rfl rfl rfl rfl rfl ?_; clear hM
            intro w18 hM; refine ⟨fun _ _ => (hM.drop 3), ?_⟩
            replace hM : Mem _ _ [pt b15 #[.int .i64 3, .int .i64 ((n : Int)), .int .i64 0, .slice none 0 0, .slice none 0 0, .slice none 0 0] 25, own 69 4 (.slice (some ⟨g8, 0, none⟩) X.length c6) X.length (tokv X), pt b3 cz0 25, pt b1 cz0 25] _ := hM
            refine D.valF hA rfl (fun _ => R.assign rfl) rfl ?_; clear hA a; intro a hA
            refine D.valF hA rfl (fun _ => R.assign rfl) rfl ?_; clear hA a; intro a hA
            refine D.done ?_
            replace hA : St 303 [(2, _), (3, _), (4, _), (5, _), (6, _), (9, _), (10, _), (12, _)] a := hA.sub ((.cons rfl (.cons rfl (.cons rfl (.cons rfl (.cons rfl (.cons rfl (.cons rfl (.cons rfl .nil)))))))))
            refine Ends.retC3 (k := 3) Tryd.func29 Tryd.results29 hA hM rfl rfl rfl rfl sz25 rfl ?_
            have hpb : pbR X = (3, 2) := pb_b hw0 rfl (bod3w hc0 (w2_no k23 hc18) (by decide)) (by decide)
            rw [prs_bad' hse hs0 hpb (by decide)]
            exact ⟨none, 0, none, 0, none, 0, rfl, nilI _, Mem.trans0 hbs hM.nilL⟩
           ·
            have hnw2 := hc18
            refine Ends.skip ?_
            have hk21 := hX.one hj2 k23 hcs.2.2 (by decide)
            have hw2 := w2_fu hk21 hcs.2.2
            rw [hcs.2.2] at hA
            refine Ends.region ?_
            refine S.val hA (R.assign rfl) rfl ?_; clear hA a; intro a hA
            refine S.done ?_
            refine Ends.seq (Ends.region ?_)
            refine S.val hA (R.assign rfl) rfl ?_; clear hA a; intro a hA
            refine S.done ?_
            refine Ends.seq (Ends.seq (Ends.region ?_))
            refine S.val hA (R.move rfl) rfl ?_; clear hA a; intro a hA
            refine S.val hA (R.move rfl) rfl ?_; clear hA a; intro a hA
            obtain ⟨M, hMv⟩ : ∃ M, n * n = M := ⟨_, rfl⟩
            refine S.call hA (R.callF Tryd.func50 rfl rfl rfl) rfl (hMv ▸ want_fu n (by omega) _) ?_; clear hA a
            rintro e w19 ⟨rfl, rfl⟩
            refine ⟨.int .i64 ((M : Int)), rfl, fun a hA => ?_⟩
            refine S.val hA (R.assign rfl) rfl ?_; clear hA a; intro a hA
            refine S.done ?_
            replace hA : St 303 [(2, _), (5, _), (6, _), (9, _), (10, _), (12, _), (13, _), (14, _), (15, _)] a := hA.sub ((.cons rfl (.cons rfl (.cons rfl (.cons rfl (.cons rfl (.cons rfl (.cons rfl (.cons rfl (.cons rfl .nil))))))))))
            refine Ends.block ?_
            have hMb : M ≤ 5000 := by have h9 := nn_le hn64; omega
            replace hM := hM.ownNil 3 1
            replace hM : Mem _ _ [own 3 1 (.slice none (((nmI X 3 0)).length) 0) (((nmI X 3 0)).length) (((nmI X 3 0)).map (Value.int .i64)), pt b15 #[.int .i64 3, .int .i64 ((n : Int)), .int .i64 0, .slice none 0 0, .slice none 0 0, .slice none 0 0] 25, own 69 4 (.slice (some ⟨g8, 0, none⟩) X.length c6) X.length (tokv X), pt b3 cz0 25, pt b1 cz0 25] _ := hM
            refine Ends.loop (σ := Nat × Option Addr × Nat) (fun (q, na, nc) (a : Act) (wv : World) => St 303 [(2, .pointer (some ⟨b1, 0, none⟩)), (5, .pointer (some ⟨b3, 0, none⟩)), (6, .slice (some ⟨g8, 0, none⟩) X.length c6), (9, .string (⟨#[70, 85, 76, 76]⟩)), (10, .int .i64 ((n : Int))), (12, .pointer (some ⟨b15, 0, none⟩)), (13, .int .i64 (((3 + q : Nat) : Int))), (14, .slice na ((nmI X 3 q).length) nc), (15, .int .i64 (((M - q : Nat) : Int)))] a ∧ Mem w nof [own 3 1 (.slice na (((nmI X 3 q)).length) nc) (((nmI X 3 q)).length) (((nmI X 3 q)).map (Value.int .i64)), pt b15 #[.int .i64 3, .int .i64 ((n : Int)), .int .i64 0, .slice none 0 0, .slice none 0 0, .slice none 0 0] 25, own 69 4 (.slice (some ⟨g8, 0, none⟩) X.length c6) X.length (tokv X), pt b3 cz0 25, pt b1 cz0 25] wv ∧ (q ≤ M) ∧ (3 + q < X.length) ∧ (∀ r, r < q → nuE ((dgk 3 n) r) (X.getD (3 + r) tz) = 0)) (fun (q, na, nc) => M - q) ((0, none, 0)) ⟨hA.sub ((.cons rfl (.cons rfl (.cons rfl (.cons rfl (.cons rfl (.cons rfl (.cons rfl (.cons rfl (.cons rfl .nil)))))))))), hM, (Nat.zero_le _), hj3, (fun r hr => absurd hr (Nat.not_lt_zero r))⟩ ?_
            clear hA hM a
            rintro ⟨q, na, nc⟩ a w20 ⟨hA, hM, hq, hjq, hall⟩ hNext
            refine Ends.seq (Ends.seq (Ends.region ?_))
            refine S.val hA (R.move rfl) rfl ?_; clear hA a; intro a hA
            refine S.val hA (R.gtr rfl rfl) rfl ?_; clear hA a; intro a hA
            refine S.done ?_
            refine Ends.ite hA rfl (fun hc19 => ?_) (fun hc19 => ?_)
            ·
             have hqM : q < M := by omega
             refine Ends.skip (Ends.seq (Ends.block (Ends.seq (Ends.region ?_))))
             refine S.val hA (R.move rfl) rfl ?_; clear hA a; intro a hA
             refine S.val hA (R.move rfl) rfl ?_; clear hA a; intro a hA
             refine S.val hA (R.indexAddr (q := (3 + q) * 4) sl65 rfl rfl (by first | omega | (rw [nmI_len]; omega) | (simp only [nmI_len]; omega)) (by first | omega | (rw [nmI_len]; omega) | (simp only [nmI_len]; omega))) rfl ?_; clear hA a; intro a hA
             refine S.val hA (R.loadA sz69 rfl (hM.tokRow (k := 2) rfl (i := (3 + q)) (by omega)) rfl) rfl ?_; clear hA a; intro a hA
             refine S.alloc hA hM info69 rfl rfl ?_; clear hA hM a; intro b20 w21 hb21 hM a hA
             replace hM : Mem _ _ [pt b20 #[.int .i64 0, .string (⟨#[]⟩), .int .i64 0, .int .i64 0] 69, own 3 1 (.slice na (((nmI X 3 q)).length) nc) (((nmI X 3 q)).length) (((nmI X 3 q)).map (Value.int .i64)), pt b15 #[.int .i64 3, .int .i64 ((n : Int)), .int .i64 0, .slice none 0 0, .slice none 0 0, .slice none 0 0] 25, own 69 4 (.slice (some ⟨g8, 0, none⟩) X.length c6) X.length (tokv X), pt b3 cz0 25, pt b1 cz0 25] _ := hM
             refine S.storeA (k := 0) hA hM sz69 rfl rfl rfl rfl rfl rfl ?_; clear hM
             intro w22 hM
             replace hM : Mem _ _ [pt b20 #[.int .i64 ((X.getD (3 + q) tz).k), .string ((X.getD (3 + q) tz).x), .int .i64 ((X.getD (3 + q) tz).n), .int .i64 ((X.getD (3 + q) tz).a)] 69, own 3 1 (.slice na (((nmI X 3 q)).length) nc) (((nmI X 3 q)).length) (((nmI X 3 q)).map (Value.int .i64)), pt b15 #[.int .i64 3, .int .i64 ((n : Int)), .int .i64 0, .slice none 0 0, .slice none 0 0, .slice none 0 0] 25, own 69 4 (.slice (some ⟨g8, 0, none⟩) X.length c6) X.length (tokv X), pt b3 cz0 25, pt b1 cz0 25] _ := hM
             refine S.done ?_
             replace hA : St 303 [(2, _), (5, _), (6, _), (9, _), (10, _), (12, _), (13, _), (14, _), (15, _), (16, _)] a := hA.sub ((.cons rfl (.cons rfl (.cons rfl (.cons rfl (.cons rfl (.cons rfl (.cons rfl (.cons rfl (.cons rfl (.cons rfl .nil)))))))))))
             refine Ends.seq (Ends.seq (Ends.region ?_))
             refine S.val hA (R.fieldAddr (q := 0) fi69_0 rfl rfl rfl) rfl ?_; clear hA a; intro a hA
             refine S.val hA (R.load sz3 rfl (hM.cell (k := 0) rfl rfl)) rfl ?_; clear hA a; intro a hA
             refine S.val hA (R.eql rfl rfl) rfl ?_; clear hA a; intro a hA
             refine S.done ?_
             refine Ends.ite hA rfl (fun hc22 => ?_) (fun hc22 => ?_)
             ·
              refine Ends.seq ?_
              refine Ends.drawn (Mem w nof [pt b20 #[.int .i64 ((X.getD (3 + q) tz).k), .string ((X.getD (3 + q) tz).x), .int .i64 ((X.getD (3 + q) tz).n), .int .i64 ((X.getD (3 + q) tz).a)] 69, pt b15 #[.int .i64 3, .int .i64 ((n : Int)), .int .i64 0, .slice none 0 0, .slice none 0 0, .slice none 0 0] 25, own 69 4 (.slice (some ⟨g8, 0, none⟩) X.length c6) X.length (tokv X), pt b3 cz0 25]) (.cons (0, true) (.cons (1, true) (.cons (2, true) (.cons (3, false) (.cons (4, true) (.cons (5, true) .nil)))))) 6 mixed (by kernel_rfl) (by kernel_rfl) (by kernel_rfl) ((hM.drop 5).drop 1).drew ?_
              replace hM := hM.drew
              refine D.val hA rfl (by kernel_rfl) (fun _ hM => R.loadA sz25 rfl (hM.range (k := 3) rfl) rfl) rfl ?_; clear hA a; intro a hA
              refine D.valF hA rfl (fun _ => R.fieldAddr (q := 3) fi69_3 rfl rfl rfl) rfl ?_; clear hA a; intro a hA
              refine D.val hA rfl (by kernel_rfl) (fun _ hM => R.load sz3 rfl (hM.cell (k := 0) rfl rfl)) rfl ?_; clear hA a; intro a hA
              refine D.storeA (k := 5) hA hM rfl sz25 rfl rfl rfl rfl rfl rfl ?_; clear hM
              intro w23 hM; refine ⟨fun _ _ => ((hM.drop 5).drop 1), ?_⟩
              replace hM : Mem _ _ [pt b20 #[.int .i64 ((X.getD (3 + q) tz).k), .string ((X.getD (3 + q) tz).x), .int .i64 ((X.getD (3 + q) tz).n), .int .i64 ((X.getD (3 + q) tz).a)] 69, own 3 1 (.slice na (((nmI X 3 q)).length) nc) (((nmI X 3 q)).length) (((nmI X 3 q)).map (Value.int .i64)), pt b15 #[.int .i64 3, .int .i64 ((n : Int)), .int .i64 0, .slice none 0 0, .slice none 0 0, .slice none 0 0] 25, own 69 4 (.slice (some ⟨g8, 0, none⟩) X.length c6) X.length (tokv X), pt b3 cz0 25, pt b1 cz0 25] _ := hM
              refine D.valF hA rfl (fun _ => R.assign rfl) rfl ?_; clear hA a; intro a hA
              refine D.valF hA rfl (fun _ => R.assign rfl) rfl ?_; clear hA a; intro a hA
              refine D.done ?_
              replace hA : St 303 [(2, _), (3, _), (4, _), (5, _), (6, _), (9, _), (10, _), (12, _), (13, _), (14, _), (15, _), (16, _)] a := hA.sub ((.cons rfl (.cons rfl (.cons rfl (.cons rfl (.cons rfl (.cons rfl (.cons rfl (.cons rfl (.cons rfl (.cons rfl (.cons rfl (.cons rfl .nil)))))))))))))
              refine Ends.retC3 (k := 5) Tryd.func29 Tryd.results29 hA hM rfl rfl rfl rfl sz25 rfl ?_
              have hpb : pbR X = (6, (3 + q)) := pb_b hw0 rfl (bod3f hc0 hcn hw2 hMv.symm ((nuR_badP (f := (dgk 3 n)) hall rfl (by rw [(numR_end (m := 2147483647) hc22).1]; decide) hqM).trans (by rw [(numR_end (m := 2147483647) hc22).1]))) (by decide)
              rw [prs_bad' hse hs0 hpb (by decide)]
              exact ⟨none, 0, none, 0, none, 0, rfl, nilI _, Mem.trans0 hbs hM.nilL⟩
             ·
              have kq3 : ¬ (X.getD (3 + q) tz).k = 3 := hc22
              have hjn := hX.next (3 + q) hjq kq3
              refine Ends.skip (Ends.seq (Ends.seq (Ends.region ?_)))
              refine S.val hA (R.fieldAddr (q := 0) fi69_0 rfl rfl rfl) rfl ?_; clear hA a; intro a hA
              refine S.val hA (R.load sz3 rfl (hM.cell (k := 0) rfl rfl)) rfl ?_; clear hA a; intro a hA
              refine S.val hA (R.eql rfl rfl) rfl ?_; clear hA a; intro a hA
              refine S.done ?_
              replace hA : St 303 [(2, _), (5, _), (6, _), (9, _), (10, _), (12, _), (13, _), (14, _), (15, _), (16, _), (163, _)] a := hA.sub ((.cons rfl (.cons rfl (.cons rfl (.cons rfl (.cons rfl (.cons rfl (.cons rfl (.cons rfl (.cons rfl (.cons rfl (.cons rfl .nil))))))))))))
              refine Ends.ite hA rfl (fun hc23 => ?_) (fun hc23 => ?_)
              ·
               refine Ends.seq ?_
               refine Ends.drawn (Mem w nof [pt b20 #[.int .i64 ((X.getD (3 + q) tz).k), .string ((X.getD (3 + q) tz).x), .int .i64 ((X.getD (3 + q) tz).n), .int .i64 ((X.getD (3 + q) tz).a)] 69, pt b15 #[.int .i64 3, .int .i64 ((n : Int)), .int .i64 0, .slice none 0 0, .slice none 0 0, .slice none 0 0] 25, own 69 4 (.slice (some ⟨g8, 0, none⟩) X.length c6) X.length (tokv X), pt b3 cz0 25]) (.cons (0, true) (.cons (1, true) (.cons (2, true) (.cons (3, false) (.cons (4, true) (.cons (5, true) .nil)))))) 6 mixed (by kernel_rfl) (by kernel_rfl) (by kernel_rfl) ((hM.drop 5).drop 1).drew ?_
               replace hM := hM.drew
               refine D.val hA rfl (by kernel_rfl) (fun _ hM => R.loadA sz25 rfl (hM.range (k := 3) rfl) rfl) rfl ?_; clear hA a; intro a hA
               refine D.valF hA rfl (fun _ => R.fieldAddr (q := 3) fi69_3 rfl rfl rfl) rfl ?_; clear hA a; intro a hA
               refine D.val hA rfl (by kernel_rfl) (fun _ hM => R.load sz3 rfl (hM.cell (k := 0) rfl rfl)) rfl ?_; clear hA a; intro a hA
               refine D.storeA (k := 5) hA hM rfl sz25 rfl rfl rfl rfl rfl rfl ?_; clear hM
               intro w24 hM; refine ⟨fun _ _ => ((hM.drop 5).drop 1), ?_⟩
               replace hM : Mem _ _ [pt b20 #[.int .i64 ((X.getD (3 + q) tz).k), .string ((X.getD (3 + q) tz).x), .int .i64 ((X.getD (3 + q) tz).n), .int .i64 ((X.getD (3 + q) tz).a)] 69, own 3 1 (.slice na (((nmI X 3 q)).length) nc) (((nmI X 3 q)).length) (((nmI X 3 q)).map (Value.int .i64)), pt b15 #[.int .i64 3, .int .i64 ((n : Int)), .int .i64 0, .slice none 0 0, .slice none 0 0, .slice none 0 0] 25, own 69 4 (.slice (some ⟨g8, 0, none⟩) X.length c6) X.length (tokv X), pt b3 cz0 25, pt b1 cz0 25] _ := hM
               refine D.valF hA rfl (fun _ => R.assign rfl) rfl ?_; clear hA a; intro a hA
               refine D.valF hA rfl (fun _ => R.assign rfl) rfl ?_; clear hA a; intro a hA
               refine D.done ?_
               replace hA : St 303 [(2, _), (3, _), (4, _), (5, _), (6, _), (9, _), (10, _), (12, _), (13, _), (14, _), (15, _), (16, _)] a := hA.sub ((.cons rfl (.cons rfl (.cons rfl (.cons rfl (.cons rfl (.cons rfl (.cons rfl (.cons rfl (.cons rfl (.cons rfl (.cons rfl (.cons rfl .nil)))))))))))))
               refine Ends.retC3 (k := 5) Tryd.func29 Tryd.results29 hA hM rfl rfl rfl rfl sz25 rfl ?_
               have hpb : pbR X = (4, (3 + q)) := pb_b hw0 rfl (bod3f hc0 hcn hw2 hMv.symm ((nuR_badP (f := (dgk 3 n)) hall rfl (by rw [(numR_word (m := 2147483647) kq3 hc23).1]; decide) hqM).trans (by rw [(numR_word (m := 2147483647) kq3 hc23).1]))) (by decide)
               rw [prs_bad' hse hs0 hpb (by decide)]
               exact ⟨none, 0, none, 0, none, 0, rfl, nilI _, Mem.trans0 hbs hM.nilL⟩
              ·
               have kq1 : ¬ (X.getD (3 + q) tz).k = 1 := hc23
               refine Ends.skip (Ends.seq (Ends.seq (Ends.region ?_)))
               refine S.val hA (R.fieldAddr (q := 2) fi69_2 rfl rfl rfl) rfl ?_; clear hA a; intro a hA
               refine S.val hA (R.load sz3 rfl (hM.cell (k := 0) rfl rfl)) rfl ?_; clear hA a; intro a hA
               refine S.val hA (R.gtr rfl rfl) rfl ?_; clear hA a; intro a hA
               refine S.done ?_
               refine Ends.ite hA rfl (fun hc24 => ?_) (fun hc24 => ?_)
               ·
                refine Ends.seq ?_
                refine Ends.drawn (Mem w nof [pt b20 #[.int .i64 ((X.getD (3 + q) tz).k), .string ((X.getD (3 + q) tz).x), .int .i64 ((X.getD (3 + q) tz).n), .int .i64 ((X.getD (3 + q) tz).a)] 69, pt b15 #[.int .i64 3, .int .i64 ((n : Int)), .int .i64 0, .slice none 0 0, .slice none 0 0, .slice none 0 0] 25, own 69 4 (.slice (some ⟨g8, 0, none⟩) X.length c6) X.length (tokv X), pt b3 cz0 25]) (.cons (0, true) (.cons (1, true) (.cons (2, true) (.cons (3, false) (.cons (4, true) (.cons (5, true) .nil)))))) 6 mixed (by kernel_rfl) (by kernel_rfl) (by kernel_rfl) ((hM.drop 5).drop 1).drew ?_
                replace hM := hM.drew
                refine D.val hA rfl (by kernel_rfl) (fun _ hM => R.loadA sz25 rfl (hM.range (k := 3) rfl) rfl) rfl ?_; clear hA a; intro a hA
                refine D.valF hA rfl (fun _ => R.fieldAddr (q := 3) fi69_3 rfl rfl rfl) rfl ?_; clear hA a; intro a hA
                refine D.val hA rfl (by kernel_rfl) (fun _ hM => R.load sz3 rfl (hM.cell (k := 0) rfl rfl)) rfl ?_; clear hA a; intro a hA
                refine D.storeA (k := 5) hA hM rfl sz25 rfl rfl rfl rfl rfl rfl ?_; clear hM
                intro w25 hM; refine ⟨fun _ _ => ((hM.drop 5).drop 1), ?_⟩
                replace hM : Mem _ _ [pt b20 #[.int .i64 ((X.getD (3 + q) tz).k), .string ((X.getD (3 + q) tz).x), .int .i64 ((X.getD (3 + q) tz).n), .int .i64 ((X.getD (3 + q) tz).a)] 69, own 3 1 (.slice na (((nmI X 3 q)).length) nc) (((nmI X 3 q)).length) (((nmI X 3 q)).map (Value.int .i64)), pt b15 #[.int .i64 3, .int .i64 ((n : Int)), .int .i64 0, .slice none 0 0, .slice none 0 0, .slice none 0 0] 25, own 69 4 (.slice (some ⟨g8, 0, none⟩) X.length c6) X.length (tokv X), pt b3 cz0 25, pt b1 cz0 25] _ := hM
                refine D.valF hA rfl (fun _ => R.assign rfl) rfl ?_; clear hA a; intro a hA
                refine D.valF hA rfl (fun _ => R.assign rfl) rfl ?_; clear hA a; intro a hA
                refine D.done ?_
                replace hA : St 303 [(2, _), (3, _), (4, _), (5, _), (6, _), (9, _), (10, _), (12, _), (13, _), (14, _), (15, _), (16, _)] a := hA.sub ((.cons rfl (.cons rfl (.cons rfl (.cons rfl (.cons rfl (.cons rfl (.cons rfl (.cons rfl (.cons rfl (.cons rfl (.cons rfl (.cons rfl .nil)))))))))))))
                refine Ends.retC3 (k := 5) Tryd.func29 Tryd.results29 hA hM rfl rfl rfl rfl sz25 rfl ?_
                have hpb : pbR X = (5, (3 + q)) := pb_b hw0 rfl (bod3f hc0 hcn hw2 hMv.symm ((nuR_badP (f := (dgk 3 n)) hall rfl (by rw [(numR_big (m := 2147483647) kq3 kq1 hc24).1]; decide) hqM).trans (by rw [(numR_big (m := 2147483647) kq3 kq1 hc24).1]))) (by decide)
                rw [prs_bad' hse hs0 hpb (by decide)]
                exact ⟨none, 0, none, 0, none, 0, rfl, nilI _, Mem.trans0 hbs hM.nilL⟩
               ·
                have hql : ¬ 2147483647 < (X.getD (3 + q) tz).n := hc24
                obtain ⟨hr0, hrn⟩ := numR_ok kq3 kq1 hql
                refine Ends.skip (Ends.seq (Ends.seq ?_))
                have hdq : dgk 3 n q = true ↔ ((q % (n + 1) : Nat) : Int) = 0 := by unfold dgk; rw [decide_eq_true_iff]; omega
                refine Ends.cut (fun (a : Act) (wv : World) => St 303 [(2, .pointer (some ⟨b1, 0, none⟩)), (5, .pointer (some ⟨b3, 0, none⟩)), (6, .slice (some ⟨g8, 0, none⟩) X.length c6), (9, .string (⟨#[70, 85, 76, 76]⟩)), (10, .int .i64 ((n : Int))), (12, .pointer (some ⟨b15, 0, none⟩)), (13, .int .i64 (((3 + q : Nat) : Int))), (14, .slice na ((nmI X 3 q).length) nc), (15, .int .i64 (((M - q : Nat) : Int))), (16, .pointer (some ⟨b20, 0, none⟩)), (187, .bool (decide (((((q % (n + 1) : Nat) : Int)) = 0 ∧ ((X.getD (3 + q) tz).n) ≠ 0))))] a ∧ Mem w nof [pt b20 #[.int .i64 ((X.getD (3 + q) tz).k), .string ((X.getD (3 + q) tz).x), .int .i64 ((X.getD (3 + q) tz).n), .int .i64 ((X.getD (3 + q) tz).a)] 69, own 3 1 (.slice na (((nmI X 3 q)).length) nc) (((nmI X 3 q)).length) (((nmI X 3 q)).map (Value.int .i64)), pt b15 #[.int .i64 3, .int .i64 ((n : Int)), .int .i64 0, .slice none 0 0, .slice none 0 0, .slice none 0 0] 25, own 69 4 (.slice (some ⟨g8, 0, none⟩) X.length c6) X.length (tokv X), pt b3 cz0 25, pt b1 cz0 25] wv) ?_ (fun k2 hJ => ?_)
                ·
                 clear hA hM a; rintro a w26 ⟨hA, hM⟩
                 refine Ends.ite hA rfl (fun hc25 => ?_) (fun hc25 => ?_)
                 ·
                  refine Ends.seq ?_
                  refine Ends.drawn (Mem w nof [pt b20 #[.int .i64 ((X.getD (3 + q) tz).k), .string ((X.getD (3 + q) tz).x), .int .i64 ((X.getD (3 + q) tz).n), .int .i64 ((X.getD (3 + q) tz).a)] 69, pt b15 #[.int .i64 3, .int .i64 ((n : Int)), .int .i64 0, .slice none 0 0, .slice none 0 0, .slice none 0 0] 25, own 69 4 (.slice (some ⟨g8, 0, none⟩) X.length c6) X.length (tokv X), pt b3 cz0 25]) (.cons (0, true) (.cons (1, true) (.cons (2, true) (.cons (3, false) (.cons (4, true) (.cons (5, true) .nil)))))) 6 mixed (by kernel_rfl) (by kernel_rfl) (by kernel_rfl) ((hM.drop 5).drop 1).drew ?_
                  replace hM := hM.drew
                  refine D.val hA rfl (by kernel_rfl) (fun _ hM => R.loadA sz25 rfl (hM.range (k := 3) rfl) rfl) rfl ?_; clear hA a; intro a hA
                  refine D.valF hA rfl (fun _ => R.fieldAddr (q := 3) fi69_3 rfl rfl rfl) rfl ?_; clear hA a; intro a hA
                  refine D.val hA rfl (by kernel_rfl) (fun _ hM => R.load sz3 rfl (hM.cell (k := 0) rfl rfl)) rfl ?_; clear hA a; intro a hA
                  refine D.storeA (k := 5) hA hM rfl sz25 rfl rfl rfl rfl rfl rfl ?_; clear hM
                  intro w27 hM; refine ⟨fun _ _ => ((hM.drop 5).drop 1), ?_⟩
                  replace hM : Mem _ _ [pt b20 #[.int .i64 ((X.getD (3 + q) tz).k), .string ((X.getD (3 + q) tz).x), .int .i64 ((X.getD (3 + q) tz).n), .int .i64 ((X.getD (3 + q) tz).a)] 69, own 3 1 (.slice na (((nmI X 3 q)).length) nc) (((nmI X 3 q)).length) (((nmI X 3 q)).map (Value.int .i64)), pt b15 #[.int .i64 3, .int .i64 ((n : Int)), .int .i64 0, .slice none 0 0, .slice none 0 0, .slice none 0 0] 25, own 69 4 (.slice (some ⟨g8, 0, none⟩) X.length c6) X.length (tokv X), pt b3 cz0 25, pt b1 cz0 25] _ := hM
                  refine D.valF hA rfl (fun _ => R.assign rfl) rfl ?_; clear hA a; intro a hA
                  refine D.valF hA rfl (fun _ => R.assign rfl) rfl ?_; clear hA a; intro a hA
                  refine D.done ?_
                  replace hA : St 303 [(2, _), (3, _), (4, _), (5, _), (6, _), (9, _), (10, _), (12, _), (13, _), (14, _), (15, _), (16, _)] a := hA.sub ((.cons rfl (.cons rfl (.cons rfl (.cons rfl (.cons rfl (.cons rfl (.cons rfl (.cons rfl (.cons rfl (.cons rfl (.cons rfl (.cons rfl .nil)))))))))))))
                  refine Ends.retC3 (k := 5) Tryd.func29 Tryd.results29 hA hM rfl rfl rfl rfl sz25 rfl ?_
                  have hpb : pbR X = (8, (3 + q)) := pb_b hw0 rfl (bod3f hc0 hcn hw2 hMv.symm (nuR_badF (f := dgk 3 n) hall rfl hr0 (hdq.2 hc25.1) (by rw [hrn]; exact hc25.2) hqM)) (by decide)
                  rw [prs_bad' hse hs0 hpb (by decide)]
                  exact ⟨none, 0, none, 0, none, 0, rfl, nilI _, Mem.trans0 hbs hM.nilL⟩
                 ·
                  have hall2 := nuE_step hall rfl hr0 (fun g => hc25 ⟨hdq.1 g.1, by rw [← hrn]; exact g.2⟩)
                  refine Ends.skip (Ends.seq (Ends.region ?_))
                  refine S.val hA (R.move rfl) rfl ?_; clear hA a; intro a hA
                  refine S.val hA (R.fieldAddr (q := 2) fi69_2 rfl rfl rfl) rfl ?_; clear hA a; intro a hA
                  refine S.val hA (R.load sz3 rfl (hM.cell (k := 0) rfl rfl)) rfl ?_; clear hA a; intro a hA
                  refine S.buildSl (cells := #[.int .i64 ((X.getD (3 + q) tz).n)]) hA hM Tryd.underlying22 info3 rfl rfl rfl rfl (by kernel_rfl) rfl ?_; clear hA hM a; intro b26 w28 hb27 hM a hA
                  replace hM : Mem _ _ [pt b26 #[.int .i64 ((X.getD (3 + q) tz).n)] 3, pt b20 #[.int .i64 ((X.getD (3 + q) tz).k), .string ((X.getD (3 + q) tz).x), .int .i64 ((X.getD (3 + q) tz).n), .int .i64 ((X.getD (3 + q) tz).a)] 69, own 3 1 (.slice na (((nmI X 3 q)).length) nc) (((nmI X 3 q)).length) (((nmI X 3 q)).map (Value.int .i64)), pt b15 #[.int .i64 3, .int .i64 ((n : Int)), .int .i64 0, .slice none 0 0, .slice none 0 0, .slice none 0 0] 25, own 69 4 (.slice (some ⟨g8, 0, none⟩) X.length c6) X.length (tokv X), pt b3 cz0 25, pt b1 cz0 25] _ := hM
                  refine S.append (k := 2) (k2 := 0) hA hM rfl rfl Tryd.underlying22 info3 rfl rfl rfl rfl rfl rfl rfl rfl rfl (by first | (rw [nmI_len]; first | (unfold maxLen; omega) | (show (q + 1) * 8 ≤ 140737488355328; omega)) | (rw [itI_len]; first | (unfold maxLen; omega) | (show (k + 1) * 8 ≤ 140737488355328; omega)) | (rw [hlr]; first | (unfold maxLen; omega) | (show (r + 1) * 24 ≤ 140737488355328; omega))) (by first | (rw [nmI_len]; first | (unfold maxLen; omega) | (show (q + 1) * 8 ≤ 140737488355328; omega)) | (rw [itI_len]; first | (unfold maxLen; omega) | (show (k + 1) * 8 ≤ 140737488355328; omega)) | (rw [hlr]; first | (unfold maxLen; omega) | (show (r + 1) * 24 ≤ 140737488355328; omega))) rfl ?_; clear hA hM a; intro a28 c29 w29 hM a hA
                  replace hM : Mem _ _ [pt b26 #[.int .i64 ((X.getD (3 + q) tz).n)] 3, pt b20 #[.int .i64 ((X.getD (3 + q) tz).k), .string ((X.getD (3 + q) tz).x), .int .i64 ((X.getD (3 + q) tz).n), .int .i64 ((X.getD (3 + q) tz).a)] 69, own 3 1 (.slice a28 ((((nmI X 3 q)).length) + 1) c29) ((((nmI X 3 q)).length) + 1) (((nmI X 3 q)).map (Value.int .i64) ++ [.int .i64 ((X.getD (3 + q) tz).n)]), pt b15 #[.int .i64 3, .int .i64 ((n : Int)), .int .i64 0, .slice none 0 0, .slice none 0 0, .slice none 0 0] 25, own 69 4 (.slice (some ⟨g8, 0, none⟩) X.length c6) X.length (tokv X), pt b3 cz0 25, pt b1 cz0 25] _ := hM
                  have hl30 : (((nmI X 3 q)).length) + 1 = ((nmI X 3 q) ++ [(X.getD (3 + q) tz).n]).length := by simp
                  rw [hl30, show ((nmI X 3 q)).map (Value.int .i64) ++ [.int .i64 ((X.getD (3 + q) tz).n)] = ((nmI X 3 q) ++ [(X.getD (3 + q) tz).n]).map (Value.int .i64) by simp] at hM; rw [hl30] at hA
                  clear hl30
                  replace hM := hM.drop 0
                  replace hM : Mem _ _ [pt b20 #[.int .i64 ((X.getD (3 + q) tz).k), .string ((X.getD (3 + q) tz).x), .int .i64 ((X.getD (3 + q) tz).n), .int .i64 ((X.getD (3 + q) tz).a)] 69, own 3 1 (.slice a28 ((((nmI X 3 q) ++ [(X.getD (3 + q) tz).n])).length) c29) ((((nmI X 3 q) ++ [(X.getD (3 + q) tz).n])).length) ((((nmI X 3 q) ++ [(X.getD (3 + q) tz).n])).map (Value.int .i64)), pt b15 #[.int .i64 3, .int .i64 ((n : Int)), .int .i64 0, .slice none 0 0, .slice none 0 0, .slice none 0 0] 25, own 69 4 (.slice (some ⟨g8, 0, none⟩) X.length c6) X.length (tokv X), pt b3 cz0 25, pt b1 cz0 25] _ := hM
                  refine S.val hA (R.assign rfl) rfl ?_; clear hA a; intro a hA
                  refine S.done ?_
                  replace hA : St 303 [(2, _), (5, _), (6, _), (9, _), (10, _), (12, _), (13, _), (14, _), (15, _)] a := hA.sub ((.cons rfl (.cons rfl (.cons rfl (.cons rfl (.cons rfl (.cons rfl (.cons rfl (.cons rfl (.cons rfl .nil))))))))))
                  refine Ends.region ?_
                  refine S.val hA (R.move rfl) rfl ?_; clear hA a; intro a hA
                  refine S.val hA (R.addI rfl rfl (r := ((3 + (q + 1) : Nat) : Int)) (by first | omega | (rw [nmI_len]; omega) | (simp only [nmI_len]; omega)) (by first | omega | (rw [nmI_len]; omega) | (simp only [nmI_len]; omega))) rfl ?_; clear hA a; intro a hA
                  refine S.val hA (R.assign rfl) rfl ?_; clear hA a; intro a hA
                  refine S.done ?_
                  refine Ends.inBlock (Ends.region ?_)
                  refine S.val hA (R.move rfl) rfl ?_; clear hA a; intro a hA
                  refine S.val hA (R.subI rfl rfl (r := ((M - (q + 1) : Nat) : Int)) (by first | omega | (rw [nmI_len]; omega) | (simp only [nmI_len]; omega)) (by first | omega | (rw [nmI_len]; omega) | (simp only [nmI_len]; omega))) rfl ?_; clear hA a; intro a hA
                  refine S.val hA (R.assign rfl) rfl ?_; clear hA a; intro a hA
                  refine S.done ?_
                  replace hA : St 303 [(2, _), (5, _), (6, _), (9, _), (10, _), (12, _), (13, _), (14, _), (15, _)] a := hA.sub ((.cons rfl (.cons rfl (.cons rfl (.cons rfl (.cons rfl (.cons rfl (.cons rfl (.cons rfl (.cons rfl .nil))))))))))
                  replace hM := hM.front (k := 1) rfl
                  replace hM : Mem _ _ [own 3 1 (.slice a28 ((((nmI X 3 q) ++ [(X.getD (3 + q) tz).n])).length) c29) ((((nmI X 3 q) ++ [(X.getD (3 + q) tz).n])).length) ((((nmI X 3 q) ++ [(X.getD (3 + q) tz).n])).map (Value.int .i64)), pt b20 #[.int .i64 ((X.getD (3 + q) tz).k), .string ((X.getD (3 + q) tz).x), .int .i64 ((X.getD (3 + q) tz).n), .int .i64 ((X.getD (3 + q) tz).a)] 69, pt b15 #[.int .i64 3, .int .i64 ((n : Int)), .int .i64 0, .slice none 0 0, .slice none 0 0, .slice none 0 0] 25, own 69 4 (.slice (some ⟨g8, 0, none⟩) X.length c6) X.length (tokv X), pt b3 cz0 25, pt b1 cz0 25] _ := hM
                  replace hM := hM.front (k := 5) rfl
                  replace hM := hM.front (k := 5) rfl
                  replace hM := hM.front (k := 5) rfl
                  replace hM := hM.front (k := 5) rfl
                  replace hM := hM.front (k := 4) rfl
                  replace hM : Mem _ _ [own 3 1 (.slice a28 ((((nmI X 3 q) ++ [(X.getD (3 + q) tz).n])).length) c29) ((((nmI X 3 q) ++ [(X.getD (3 + q) tz).n])).length) ((((nmI X 3 q) ++ [(X.getD (3 + q) tz).n])).map (Value.int .i64)), pt b15 #[.int .i64 3, .int .i64 ((n : Int)), .int .i64 0, .slice none 0 0, .slice none 0 0, .slice none 0 0] 25, own 69 4 (.slice (some ⟨g8, 0, none⟩) X.length c6) X.length (tokv X), pt b3 cz0 25, pt b1 cz0 25, pt b20 #[.int .i64 ((X.getD (3 + q) tz).k), .string ((X.getD (3 + q) tz).x), .int .i64 ((X.getD (3 + q) tz).n), .int .i64 ((X.getD (3 + q) tz).a)] 69] _ := hM
                  replace hM := hM.firstN 5
                  rw [show ((nmI X 3 q) ++ [(X.getD (3 + q) tz).n]) = nmI X 3 (q + 1) from nmI_snoc X 3 q] at hM hA
                  exact hNext ((q + 1, a28, c29)) _ _ ((by show M - (q + 1) < M - q; omega)) ⟨hA.sub ((.cons rfl (.cons rfl (.cons rfl (.cons rfl (.cons rfl (.cons rfl (.cons rfl (.cons rfl (.cons rfl .nil)))))))))), hM, (by omega), hjn, hall2⟩
                ·
                 refine Ends.region ?_
                 refine S.val hA (R.move rfl) rfl ?_; clear hA a; intro a hA
                 refine S.val hA (R.tt (R.eqlStr rfl rfl) (by first | decide | simp | omega)) rfl ?_; clear hA a; intro a hA
                 refine S.val hA (R.move rfl) rfl ?_; clear hA a; intro a hA
                 refine S.valg (dj := 175) hA (by kernel_rfl) rfl (R.move rfl) rfl ?_; clear hA a; intro a hA
                 refine S.valg (dj := 175) hA (by kernel_rfl) rfl (R.lenS Tryd.underlying22 rfl rfl) rfl ?_; clear hA a; intro a hA
                 refine S.valg (dj := 175) hA (by kernel_rfl) rfl (R.move rfl) rfl ?_; clear hA a; intro a hA
                 refine S.valg (dj := 175) hA (by kernel_rfl) rfl (R.addI rfl rfl (r := ((n + 1 : Nat) : Int)) (by first | omega | (rw [nmI_len]; omega) | (simp only [nmI_len]; omega)) (by first | omega | (rw [nmI_len]; omega) | (simp only [nmI_len]; omega))) rfl ?_; clear hA a; intro a hA
                 refine S.valg (dj := 175) hA (by kernel_rfl) rfl (R.remI rfl rfl (r := ((q % (n + 1) : Nat) : Int)) (by first | omega | (rw [nmI_len]; omega) | (simp only [nmI_len]; omega)) (by first | omega | (rw [nmI_len]; omega) | (simp only [nmI_len]; omega))) rfl ?_; clear hA a; intro a hA
                 refine S.valg (dj := 175) hA (by kernel_rfl) rfl (R.eql rfl rfl) rfl ?_; clear hA a; intro a hA
                 refine S.val hA (R.pickT rfl rfl) rfl ?_; clear hA a; intro a hA
                 refine S.val hA (R.move rfl) rfl ?_; clear hA a; intro a hA
                 refine hA.split (d := 183) rfl ?_ ?_
                 ·
                  clear hA; intro hg31 hA
                  refine S.valg (dj := 183) hA (by kernel_rfl) rfl (R.fieldAddr (q := 2) fi69_2 rfl rfl rfl) rfl ?_; clear hA a; intro a hA
                  refine S.valg (dj := 183) hA (by kernel_rfl) rfl (R.load sz3 rfl (hM.cell (k := 0) rfl rfl)) rfl ?_; clear hA a; intro a hA
                  refine S.valg (dj := 183) hA (by kernel_rfl) rfl (R.neq rfl rfl) rfl ?_; clear hA a; intro a hA
                  refine S.val hA (R.pickT rfl rfl) rfl ?_; clear hA a; intro a hA
                  refine S.done ?_
                  replace hA : St 303 [(2, _), (5, _), (6, _), (9, _), (10, _), (12, _), (13, _), (14, _), (15, _), (16, _), (187, _)] a := hA.sub ((.cons rfl (.cons rfl (.cons rfl (.cons rfl (.cons rfl (.cons rfl (.cons rfl (.cons rfl (.cons rfl (.cons rfl (.cons rfl .nil))))))))))))
                  exact hJ _ _ ⟨hA.sub (.cons rfl (.cons rfl (.cons rfl (.cons rfl (.cons rfl (.cons rfl (.cons rfl (.cons rfl (.cons rfl (.cons rfl (.cons (by first | rfl | exact congrArg (fun b => some (Value.bool b)) (by first | exact decide_eq_decide.2 (by omega) | exact or_bool (by omega) | exact and_bool (by omega) | (simp; done) | (simp [hg31]; done) | (have h80 := hg31; (try simp at h80); simp [h80]; done) | exact (decide_eq_false (fun h9 => hg31 h9.1)).symm)) .nil))))))))))), hM⟩
                 ·
                  clear hA; intro hg31 hA
                  refine S.no (dj := 183) hA (by kernel_rfl) rfl rfl rfl ?_; clear hA a; intro a hA
                  refine S.no (dj := 183) hA (by kernel_rfl) rfl rfl rfl ?_; clear hA a; intro a hA
                  refine S.no (dj := 183) hA (by kernel_rfl) rfl rfl rfl ?_; clear hA a; intro a hA
                  refine S.val hA (R.pickF rfl rfl) rfl ?_; clear hA a; intro a hA
                  refine S.done ?_
                  replace hA : St 303 [(2, _), (5, _), (6, _), (9, _), (10, _), (12, _), (13, _), (14, _), (15, _), (16, _), (187, _)] a := hA.sub ((.cons rfl (.cons rfl (.cons rfl (.cons rfl (.cons rfl (.cons rfl (.cons rfl (.cons rfl (.cons rfl (.cons rfl (.cons rfl .nil))))))))))))
                  exact hJ _ _ ⟨hA.sub (.cons rfl (.cons rfl (.cons rfl (.cons rfl (.cons rfl (.cons rfl (.cons rfl (.cons rfl (.cons rfl (.cons rfl (.cons (by first | rfl | exact congrArg (fun b => some (Value.bool b)) (by first | exact decide_eq_decide.2 (by omega) | exact or_bool (by omega) | exact and_bool (by omega) | (simp; done) | (simp [hg31]; done) | (have h80 := hg31; (try simp at h80); simp [h80]; done) | exact (decide_eq_false (fun h9 => hg31 h9.1)).symm)) .nil))))))))))), hM⟩
            ·
             have hqM : q = M := by omega
             subst hqM
             refine Ends.exit rfl ?_
             refine Ends.seq (Ends.seq (Ends.region ?_))
             refine S.val hA (R.move rfl) rfl ?_; clear hA a; intro a hA
             refine S.val hA (R.move rfl) rfl ?_; clear hA a; intro a hA
             refine S.val hA (R.indexAddr (q := (3 + q) * 4) sl65 rfl rfl (by first | omega | (rw [nmI_len]; omega) | (simp only [nmI_len]; omega)) (by first | omega | (rw [nmI_len]; omega) | (simp only [nmI_len]; omega))) rfl ?_; clear hA a; intro a hA
             refine S.val hA (R.fieldAddr (q := (3 + q) * 4 + 0) fi69_0 rfl rfl rfl) rfl ?_; clear hA a; intro a hA
             refine S.val hA (R.load sz3 rfl (hM.tokRow (k := 2) rfl (i := (3 + q)) (by omega) 0 _ rfl)) rfl ?_; clear hA a; intro a hA
             refine S.val hA (R.neq rfl rfl) rfl ?_; clear hA a; intro a hA
             refine S.done ?_
             replace hA : St 303 [(2, _), (5, _), (6, _), (9, _), (10, _), (12, _), (13, _), (14, _), (203, _)] a := hA.sub ((.cons rfl (.cons rfl (.cons rfl (.cons rfl (.cons rfl (.cons rfl (.cons rfl (.cons rfl (.cons rfl .nil))))))))))
             refine Ends.ite hA rfl (fun hc32 => ?_) (fun hc32 => ?_)
             ·
              refine Ends.seq ?_
              refine Ends.drawn (Mem w nof [pt b15 #[.int .i64 3, .int .i64 ((n : Int)), .int .i64 0, .slice none 0 0, .slice none 0 0, .slice none 0 0] 25, own 69 4 (.slice (some ⟨g8, 0, none⟩) X.length c6) X.length (tokv X), pt b3 cz0 25]) (.cons (0, true) (.cons (1, true) (.cons (2, true) (.cons (3, true) (.cons (4, true) (.cons (5, true) (.cons (6, false) (.cons (7, true) (.cons (8, true) .nil))))))))) 9 mixed (by kernel_rfl) (by kernel_rfl) (by kernel_rfl) ((hM.drop 4).drop 0).drew ?_
              replace hM := hM.drew
              refine D.val hA rfl (by kernel_rfl) (fun _ hM => R.loadA sz25 rfl (hM.range (k := 2) rfl) rfl) rfl ?_; clear hA a; intro a hA
              refine D.valF hA rfl (fun _ => R.move rfl) rfl ?_; clear hA a; intro a hA
              refine D.valF hA rfl (fun _ => R.move rfl) rfl ?_; clear hA a; intro a hA
              refine D.valF hA rfl (fun _ => R.indexAddr (q := (3 + q) * 4) sl65 rfl rfl (by first | omega | (rw [nmI_len]; omega) | (simp only [nmI_len]; omega)) (by first | omega | (rw [nmI_len]; omega) | (simp only [nmI_len]; omega))) rfl ?_; clear hA a; intro a hA
              refine D.valF hA rfl (fun _ => R.fieldAddr (q := (3 + q) * 4 + 3) fi69_3 rfl rfl rfl) rfl ?_; clear hA a; intro a hA
              refine D.val hA rfl (by kernel_rfl) (fun _ hM => R.load sz3 rfl (hM.tokRow (k := 1) rfl (i := (3 + q)) (by omega) 3 _ rfl)) rfl ?_; clear hA a; intro a hA
              refine D.storeA (k := 4) hA hM rfl sz25 rfl rfl rfl rfl rfl rfl ?_; clear hM
              intro w30 hM; refine ⟨fun _ _ => ((hM.drop 4).drop 0), ?_⟩
              replace hM : Mem _ _ [own 3 1 (.slice na (((nmI X 3 q)).length) nc) (((nmI X 3 q)).length) (((nmI X 3 q)).map (Value.int .i64)), pt b15 #[.int .i64 3, .int .i64 ((n : Int)), .int .i64 0, .slice none 0 0, .slice none 0 0, .slice none 0 0] 25, own 69 4 (.slice (some ⟨g8, 0, none⟩) X.length c6) X.length (tokv X), pt b3 cz0 25, pt b1 cz0 25] _ := hM
              refine D.valF hA rfl (fun _ => R.assign rfl) rfl ?_; clear hA a; intro a hA
              refine D.valF hA rfl (fun _ => R.assign rfl) rfl ?_; clear hA a; intro a hA
              refine D.done ?_
              replace hA : St 303 [(2, _), (3, _), (4, _), (9, _), (10, _), (12, _), (14, _)] a := hA.sub ((.cons rfl (.cons rfl (.cons rfl (.cons rfl (.cons rfl (.cons rfl (.cons rfl .nil))))))))
              refine Ends.retC3 (k := 4) Tryd.func29 Tryd.results29 hA hM rfl rfl rfl rfl sz25 rfl ?_
              have hpb : pbR X = (7, (3 + q)) := (pb_e hw0 rfl (bod3f hc0 hcn hw2 hMv.symm (nuR_ok hall))).trans (by rw [show endR (X.getD (3 + q) tz) = 7 from if_pos hc32])
              rw [prs_bad' hse hs0 hpb (by decide)]
              exact ⟨none, 0, none, 0, none, 0, rfl, nilI _, Mem.trans0 hbs hM.nilL⟩
             ·
              have hpbE : pbR X = (0, 3 + q) := (pb_e hw0 rfl (bod3f hc0 hcn hw2 hMv.symm (nuR_ok hall))).trans (by rw [show endR (X.getD (3 + q) tz) = 0 from if_neg hc32])
              refine Ends.skip (Ends.seq (Ends.seq (Ends.region ?_)))
              refine S.val hA (R.fieldAddr (q := 0) fi25_0 rfl rfl rfl) rfl ?_; clear hA a; intro a hA
              refine S.val hA (R.load sz3 rfl (hM.cell (k := 1) rfl rfl)) rfl ?_; clear hA a; intro a hA
              refine S.val hA (R.ff (R.eql rfl rfl) (by first | decide | simp | omega)) rfl ?_; clear hA a; intro a hA
              refine S.done ?_
              replace hA : St 303 [(2, _), (9, _), (10, _), (12, _), (14, _), (212, _)] a := hA.sub ((.cons rfl (.cons rfl (.cons rfl (.cons rfl (.cons rfl (.cons rfl .nil)))))))
              refine Ends.condF hA rfl ?_
              refine Ends.skip (Ends.seq (Ends.region ?_))
              refine S.val hA (R.assign rfl) rfl ?_; clear hA a; intro a hA
              refine S.done ?_
              refine Ends.seq (Ends.seq (Ends.region ?_))
              refine S.val hA (R.assign rfl) rfl ?_; clear hA a; intro a hA
              refine S.done ?_
              refine Ends.block ?_
              replace hM := (hM.bundleNil (e := 3)).ownNil 22 1
              replace hM : Mem _ _ [own 22 1 (.slice none (([] : List OwR).length) 0) (([] : List OwR).length) ((([] : List OwR).map orV)), bundle (([] : List OwR).map (orC 3)), own 3 1 (.slice na (((nmI X 3 q)).length) nc) (((nmI X 3 q)).length) (((nmI X 3 q)).map (Value.int .i64)), pt b15 #[.int .i64 3, .int .i64 ((n : Int)), .int .i64 0, .slice none 0 0, .slice none 0 0, .slice none (([] : List OwR).length) 0] 25, own 69 4 (.slice (some ⟨g8, 0, none⟩) X.length c6) X.length (tokv X), pt b3 cz0 25, pt b1 cz0 25] _ := hM
              refine Ends.loop (σ := Nat × List OwR × Option Addr × Nat) (fun (r, rs, ac, cc) (a : Act) (wv : World) => St 303 [(2, .pointer (some ⟨b1, 0, none⟩)), (9, .string (⟨#[70, 85, 76, 76]⟩)), (10, .int .i64 ((n : Int))), (12, .pointer (some ⟨b15, 0, none⟩)), (14, .slice na ((nmI X 3 q).length) nc), (19, .int .i64 ((r : Int)))] a ∧ Mem w nof [own 22 1 (.slice ac rs.length cc) rs.length ((rs.map orV)), bundle (rs.map (orC 3)), own 3 1 (.slice na (((nmI X 3 q)).length) nc) (((nmI X 3 q)).length) (((nmI X 3 q)).map (Value.int .i64)), pt b15 #[.int .i64 3, .int .i64 ((n : Int)), .int .i64 0, .slice none 0 0, .slice none 0 0, .slice ac rs.length cc] 25, own 69 4 (.slice (some ⟨g8, 0, none⟩) X.length c6) X.length (tokv X), pt b3 cz0 25, pt b1 cz0 25] wv ∧ (r ≤ n) ∧ (rs.map (·.Y) = matK n (rwI X 3 n) r)) (fun (r, rs, ac, cc) => n - r) ((0, [], none, 0)) ⟨hA.sub ((.cons rfl (.cons rfl (.cons rfl (.cons rfl (.cons rfl (.cons rfl .nil))))))), hM, (Nat.zero_le _), rfl⟩ ?_
              clear hA hM a
              rintro ⟨r, rs, ac, cc⟩ a w31 ⟨hA, hM, hr, hYs⟩ hNext2
              refine Ends.seq (Ends.seq (Ends.region ?_))
              refine S.val hA (R.move rfl) rfl ?_; clear hA a; intro a hA
              refine S.val hA (R.move rfl) rfl ?_; clear hA a; intro a hA
              refine S.val hA (R.lss rfl rfl) rfl ?_; clear hA a; intro a hA
              refine S.done ?_
              refine Ends.ite hA rfl (fun hc33 => ?_) (fun hc33 => ?_)
              ·
               have hrn9 : r < n := by omega
               have hlr := matK_len hYs
               refine Ends.skip (Ends.seq (Ends.block (Ends.seq (Ends.region ?_))))
               refine S.val hA (R.move rfl) rfl ?_; clear hA a; intro a hA
               refine S.make hA hM Tryd.underlying22 info3 rfl rfl rfl (by first | omega | (rw [nmI_len]; omega) | (simp only [nmI_len]; omega)) (by show (8 : Int) * _ ≤ _; omega) (by first | omega | (rw [nmI_len]; omega) | (simp only [nmI_len]; omega)) rfl ?_; clear hA hM a; intro b34 w32 hb35 hM a hA
               replace hM : Mem _ _ [pt b34 (madeCells #[.int .i64 0] (n * 1)) 3, own 22 1 (.slice ac rs.length cc) rs.length ((rs.map orV)), bundle (rs.map (orC 3)), own 3 1 (.slice na (((nmI X 3 q)).length) nc) (((nmI X 3 q)).length) (((nmI X 3 q)).map (Value.int .i64)), pt b15 #[.int .i64 3, .int .i64 ((n : Int)), .int .i64 0, .slice none 0 0, .slice none 0 0, .slice ac rs.length cc] 25, own 69 4 (.slice (some ⟨g8, 0, none⟩) X.length c6) X.length (tokv X), pt b3 cz0 25, pt b1 cz0 25] _ := hM
               rw [Nat.mul_one, made_ints] at hM
               replace hM : Mem _ _ [pt b34 ((ints (List.replicate n 0))) 3, own 22 1 (.slice ac rs.length cc) rs.length ((rs.map orV)), bundle (rs.map (orC 3)), own 3 1 (.slice na (((nmI X 3 q)).length) nc) (((nmI X 3 q)).length) (((nmI X 3 q)).map (Value.int .i64)), pt b15 #[.int .i64 3, .int .i64 ((n : Int)), .int .i64 0, .slice none 0 0, .slice none 0 0, .slice ac rs.length cc] 25, own 69 4 (.slice (some ⟨g8, 0, none⟩) X.length c6) X.length (tokv X), pt b3 cz0 25, pt b1 cz0 25] _ := hM
               refine S.val hA (R.assign rfl) rfl ?_; clear hA a; intro a hA
               refine S.done ?_
               replace hA : St 303 [(2, _), (9, _), (10, _), (12, _), (14, _), (19, _), (20, _)] a := hA.sub ((.cons rfl (.cons rfl (.cons rfl (.cons rfl (.cons rfl (.cons rfl (.cons rfl .nil))))))))
               refine Ends.seq (Ends.seq (Ends.region ?_))
               refine S.val hA (R.assign rfl) rfl ?_; clear hA a; intro a hA
               refine S.done ?_
               refine Ends.block ?_
               replace hM := hM.ptOwn (n := n) ((by simp)) (by omega)
               replace hM : Mem _ _ [own 3 1 (.slice ((some ⟨b34, 0, none⟩)) (((List.replicate n (0 : Int))).length) n) (((List.replicate n (0 : Int))).length) (((List.replicate n (0 : Int))).map (Value.int .i64)), own 22 1 (.slice ac rs.length cc) rs.length ((rs.map orV)), bundle (rs.map (orC 3)), own 3 1 (.slice na (((nmI X 3 q)).length) nc) (((nmI X 3 q)).length) (((nmI X 3 q)).map (Value.int .i64)), pt b15 #[.int .i64 3, .int .i64 ((n : Int)), .int .i64 0, .slice none 0 0, .slice none 0 0, .slice ac rs.length cc] 25, own 69 4 (.slice (some ⟨g8, 0, none⟩) X.length c6) X.length (tokv X), pt b3 cz0 25, pt b1 cz0 25] _ := hM
               rw [List.length_replicate] at hM
               replace hM : Mem _ _ [own 3 1 (.slice ((some ⟨b34, 0, none⟩)) n n) n (((List.replicate n (0 : Int))).map (Value.int .i64)), own 22 1 (.slice ac rs.length cc) rs.length ((rs.map orV)), bundle (rs.map (orC 3)), own 3 1 (.slice na (((nmI X 3 q)).length) nc) (((nmI X 3 q)).length) (((nmI X 3 q)).map (Value.int .i64)), pt b15 #[.int .i64 3, .int .i64 ((n : Int)), .int .i64 0, .slice none 0 0, .slice none 0 0, .slice ac rs.length cc] 25, own 69 4 (.slice (some ⟨g8, 0, none⟩) X.length c6) X.length (tokv X), pt b3 cz0 25, pt b1 cz0 25] _ := hM
               refine Ends.loop (σ := Nat × List Int) (fun (c_, Y) (a : Act) (wv : World) => St 303 [(2, .pointer (some ⟨b1, 0, none⟩)), (9, .string (⟨#[70, 85, 76, 76]⟩)), (10, .int .i64 ((n : Int))), (12, .pointer (some ⟨b15, 0, none⟩)), (14, .slice na ((nmI X 3 q).length) nc), (19, .int .i64 ((r : Int))), (20, .slice ((some ⟨b34, 0, none⟩)) n n), (21, .int .i64 ((c_ : Int)))] a ∧ Mem w nof [own 3 1 (.slice ((some ⟨b34, 0, none⟩)) n n) n (Y.map (Value.int .i64)), own 22 1 (.slice ac rs.length cc) rs.length ((rs.map orV)), bundle (rs.map (orC 3)), own 3 1 (.slice na (((nmI X 3 q)).length) nc) (((nmI X 3 q)).length) (((nmI X 3 q)).map (Value.int .i64)), pt b15 #[.int .i64 3, .int .i64 ((n : Int)), .int .i64 0, .slice none 0 0, .slice none 0 0, .slice ac rs.length cc] 25, own 69 4 (.slice (some ⟨g8, 0, none⟩) X.length c6) X.length (tokv X), pt b3 cz0 25, pt b1 cz0 25] wv ∧ (c_ ≤ n) ∧ (Y = (List.range n).map fun q => if q < c_ then (rwI X 3 n) r q else 0) ∧ (Y.length = n)) (fun (c_, Y) => n - c_) ((0, List.replicate n 0)) ⟨hA.sub ((.cons rfl (.cons rfl (.cons rfl (.cons rfl (.cons rfl (.cons rfl (.cons rfl (.cons rfl .nil))))))))), hM, (Nat.zero_le _), row_zero, List.length_replicate⟩ ?_
               clear hA hM a
               rintro ⟨c_, Y⟩ a w33 ⟨hA, hM, hc, hYc, hYl⟩ hNext3
               refine Ends.seq (Ends.seq (Ends.region ?_))
               refine S.val hA (R.move rfl) rfl ?_; clear hA a; intro a hA
               refine S.val hA (R.move rfl) rfl ?_; clear hA a; intro a hA
               refine S.val hA (R.lss rfl rfl) rfl ?_; clear hA a; intro a hA
               refine S.done ?_
               refine Ends.ite hA rfl (fun hc36 => ?_) (fun hc36 => ?_)
               ·
                have hcn9 : c_ < n := by omega
                have hidx := idx_lt hrn9 hcn9
                have hidxM : r * n + c_ < q := by omega
                refine Ends.skip (Ends.seq (Ends.block (Ends.seq (Ends.region ?_))))
                refine S.val hA (R.move rfl) rfl ?_; clear hA a; intro a hA
                refine S.val hA (R.tt (R.neqStr rfl rfl) (by first | decide | simp | omega)) rfl ?_; clear hA a; intro a hA
                refine S.done ?_
                replace hA : St 303 [(2, _), (9, _), (10, _), (12, _), (14, _), (19, _), (20, _), (21, _), (258, _)] a := hA.sub ((.cons rfl (.cons rfl (.cons rfl (.cons rfl (.cons rfl (.cons rfl (.cons rfl (.cons rfl (.cons rfl .nil))))))))))
                refine Ends.condT hA rfl ?_
                refine Ends.region ?_
                refine S.val hA (R.move rfl) rfl ?_; clear hA a; intro a hA
                refine S.val hA (R.move rfl) rfl ?_; clear hA a; intro a hA
                refine S.val hA (R.move rfl) rfl ?_; clear hA a; intro a hA
                refine S.val hA (R.move rfl) rfl ?_; clear hA a; intro a hA
                refine S.val hA (R.move rfl) rfl ?_; clear hA a; intro a hA
                refine S.val hA (R.mulI rfl rfl (r := ((r * n : Nat) : Int)) (by first | omega | (rw [nmI_len]; omega) | (simp only [nmI_len]; omega)) (by first | omega | (rw [nmI_len]; omega) | (simp only [nmI_len]; omega))) rfl ?_; clear hA a; intro a hA
                refine S.val hA (R.move rfl) rfl ?_; clear hA a; intro a hA
                refine S.val hA (R.addI rfl rfl (r := ((r * n + c_ : Nat) : Int)) (by first | omega | (rw [nmI_len]; omega) | (simp only [nmI_len]; omega)) (by first | omega | (rw [nmI_len]; omega) | (simp only [nmI_len]; omega))) rfl ?_; clear hA a; intro a hA
                refine S.val hA (R.idxI (hM.rsl (k := 3) rfl) (j := (((r * n + c_ : Nat) : Int)).toNat) sl22 rfl rfl (by first | omega | (rw [nmI_len]; omega) | (simp only [nmI_len]; omega)) (rfl)) rfl ?_; clear hA a; intro a hA
                refine S.val hA (R.loadI (hM.rsl (k := 3) rfl) sz3 rfl (by first | omega | (rw [nmI_len]; omega) | (simp only [nmI_len]; omega))) rfl ?_; clear hA a; intro a hA
                refine S.val hA (R.indexAddr (q := c_) sl22 rfl rfl (by first | omega | (rw [nmI_len]; omega) | (simp only [nmI_len]; omega)) (by first | omega | (rw [nmI_len]; omega) | (simp only [nmI_len]; omega))) rfl ?_; clear hA a; intro a hA
                refine S.storeO (k := 0) hA hM sz3 rfl rfl rfl rfl (mapi_get Y c_ (by first | omega | (simp only [List.length_set]; omega) | (simp; done))) ?_; clear hM; intro w34 hM; rw [mapi_set] at hM
                replace hM : Mem _ _ [own 3 1 (.slice ((some ⟨b34, 0, none⟩)) n n) n (((Y.set c_ (((nmI X 3 q)).getD ((((r * n + c_ : Nat) : Int)).toNat) 0))).map (Value.int .i64)), own 22 1 (.slice ac rs.length cc) rs.length ((rs.map orV)), bundle (rs.map (orC 3)), own 3 1 (.slice na (((nmI X 3 q)).length) nc) (((nmI X 3 q)).length) (((nmI X 3 q)).map (Value.int .i64)), pt b15 #[.int .i64 3, .int .i64 ((n : Int)), .int .i64 0, .slice none 0 0, .slice none 0 0, .slice ac rs.length cc] 25, own 69 4 (.slice (some ⟨g8, 0, none⟩) X.length c6) X.length (tokv X), pt b3 cz0 25, pt b1 cz0 25] _ := hM
                refine S.done ?_
                replace hA : St 303 [(2, _), (9, _), (10, _), (12, _), (14, _), (19, _), (20, _), (21, _)] a := hA.sub ((.cons rfl (.cons rfl (.cons rfl (.cons rfl (.cons rfl (.cons rfl (.cons rfl (.cons rfl .nil)))))))))
                refine Ends.inBlock (Ends.region ?_)
                refine S.val hA (R.move rfl) rfl ?_; clear hA a; intro a hA
                refine S.val hA (R.addI rfl rfl (r := ((c_ : Int)) + 1) rfl (by first | omega | (rw [nmI_len]; omega) | (simp only [nmI_len]; omega))) rfl ?_; clear hA a; intro a hA
                refine S.val hA (R.assign rfl) rfl ?_; clear hA a; intro a hA
                refine S.done ?_
                replace hM := hM.front (k := 7) rfl
                replace hM := hM.front (k := 7) rfl
                replace hM := hM.front (k := 7) rfl
                replace hM := hM.front (k := 7) rfl
                replace hM := hM.front (k := 7) rfl
                replace hM := hM.front (k := 7) rfl
                replace hM := hM.front (k := 7) rfl
                replace hM := hM.front (k := 7) rfl
                replace hM : Mem _ _ [own 3 1 (.slice ((some ⟨b34, 0, none⟩)) n n) n (((Y.set c_ (((nmI X 3 q)).getD ((((r * n + c_ : Nat) : Int)).toNat) 0))).map (Value.int .i64)), own 22 1 (.slice ac rs.length cc) rs.length ((rs.map orV)), bundle (rs.map (orC 3)), own 3 1 (.slice na (((nmI X 3 q)).length) nc) (((nmI X 3 q)).length) (((nmI X 3 q)).map (Value.int .i64)), pt b15 #[.int .i64 3, .int .i64 ((n : Int)), .int .i64 0, .slice none 0 0, .slice none 0 0, .slice ac rs.length cc] 25, own 69 4 (.slice (some ⟨g8, 0, none⟩) X.length c6) X.length (tokv X), pt b3 cz0 25, pt b1 cz0 25] _ := hM
                exact hNext3 ((c_ + 1, (Y.set c_ (((nmI X 3 q)).getD ((((r * n + c_ : Nat) : Int)).toNat) 0)))) _ _ ((by show n - (c_ + 1) < n - c_; omega)) ⟨hA.sub ((.cons rfl (.cons rfl (.cons rfl (.cons rfl (.cons rfl (.cons rfl (.cons rfl (.cons rfl .nil))))))))), hM, (by omega), (row_step hYc (nmI_at hidxM)), (by first | exact hYl | (rw [List.length_set]; exact hYl))⟩
               ·
                refine Ends.exit rfl ?_
                replace hA : St 303 [(2, _), (9, _), (10, _), (12, _), (14, _), (19, _), (20, _)] a := hA.sub ((.cons rfl (.cons rfl (.cons rfl (.cons rfl (.cons rfl (.cons rfl (.cons rfl .nil))))))))
                replace hM : Mem _ _ [own 3 1 (.slice ((some ⟨b34, 0, none⟩)) n n) n (Y.map (Value.int .i64)), own 22 1 (.slice ac rs.length cc) rs.length ((rs.map orV)), bundle (rs.map (orC 3)), own 3 1 (.slice na (((nmI X 3 q)).length) nc) (((nmI X 3 q)).length) (((nmI X 3 q)).map (Value.int .i64)), pt b15 #[.int .i64 3, .int .i64 ((n : Int)), .int .i64 0, .slice none 0 0, .slice none 0 0, .slice ac rs.length cc] 25, own 69 4 (.slice (some ⟨g8, 0, none⟩) X.length c6) X.length (tokv X), pt b3 cz0 25, pt b1 cz0 25] _ := hM
                have hMr := hM.eqL (L2 := [own 3 1 (.slice ((some ⟨b34, 0, none⟩)) Y.length n) Y.length (Y.map (Value.int .i64)), own 22 1 (.slice ac rs.length cc) rs.length ((rs.map orV)), bundle (rs.map (orC 3)), own 3 1 (.slice na (((nmI X 3 q)).length) nc) (((nmI X 3 q)).length) (((nmI X 3 q)).map (Value.int .i64)), pt b15 #[.int .i64 3, .int .i64 ((n : Int)), .int .i64 0, .slice none 0 0, .slice none 0 0, .slice ac rs.length cc] 25, own 69 4 (.slice (some ⟨g8, 0, none⟩) X.length c6) X.length (tokv X), pt b3 cz0 25, pt b1 cz0 25]) (by rw [hYl])
                replace hM := hMr
                rw [show (Value.slice ((some ⟨b34, 0, none⟩)) n n) = Value.slice ((some ⟨b34, 0, none⟩)) Y.length n by rw [hYl]] at hA
                refine Ends.region ?_
                refine S.val hA (R.fieldAddr (q := 5) fi25_5 rfl rfl rfl) rfl ?_; clear hA a; intro a hA
                refine S.val hA (R.load sz23 rfl (hM.cell (k := 4) rfl rfl)) rfl ?_; clear hA a; intro a hA
                refine S.val hA (R.move rfl) rfl ?_; clear hA a; intro a hA
                refine S.buildSl (cells := #[.slice ((some ⟨b34, 0, none⟩)) Y.length n]) hA hM Tryd.underlying23 info22 rfl rfl rfl rfl (by kernel_rfl) rfl ?_; clear hA hM a; intro b37 w35 hb38 hM a hA
                replace hM : Mem _ _ [pt b37 #[.slice ((some ⟨b34, 0, none⟩)) Y.length n] 22, own 3 1 (.slice ((some ⟨b34, 0, none⟩)) Y.length n) Y.length (Y.map (Value.int .i64)), own 22 1 (.slice ac rs.length cc) rs.length ((rs.map orV)), bundle (rs.map (orC 3)), own 3 1 (.slice na (((nmI X 3 q)).length) nc) (((nmI X 3 q)).length) (((nmI X 3 q)).map (Value.int .i64)), pt b15 #[.int .i64 3, .int .i64 ((n : Int)), .int .i64 0, .slice none 0 0, .slice none 0 0, .slice ac rs.length cc] 25, own 69 4 (.slice (some ⟨g8, 0, none⟩) X.length c6) X.length (tokv X), pt b3 cz0 25, pt b1 cz0 25] _ := hM
                refine S.append (k := 2) (k2 := 0) hA hM rfl rfl Tryd.underlying23 info22 rfl rfl rfl rfl rfl rfl rfl rfl rfl (by first | (rw [nmI_len]; first | (unfold maxLen; omega) | (show (q + 1) * 8 ≤ 140737488355328; omega)) | (rw [itI_len]; first | (unfold maxLen; omega) | (show (k + 1) * 8 ≤ 140737488355328; omega)) | (rw [hlr]; first | (unfold maxLen; omega) | (show (r + 1) * 24 ≤ 140737488355328; omega))) (by first | (rw [nmI_len]; first | (unfold maxLen; omega) | (show (q + 1) * 8 ≤ 140737488355328; omega)) | (rw [itI_len]; first | (unfold maxLen; omega) | (show (k + 1) * 8 ≤ 140737488355328; omega)) | (rw [hlr]; first | (unfold maxLen; omega) | (show (r + 1) * 24 ≤ 140737488355328; omega))) rfl ?_; clear hA hM a; intro a39 c40 w36 hM a hA
                replace hM : Mem _ _ [pt b37 #[.slice ((some ⟨b34, 0, none⟩)) Y.length n] 22, own 3 1 (.slice ((some ⟨b34, 0, none⟩)) Y.length n) Y.length (Y.map (Value.int .i64)), own 22 1 (.slice a39 (rs.length + 1) c40) (rs.length + 1) (((rs.map orV) ++ [.slice ((some ⟨b34, 0, none⟩)) Y.length n])), bundle (rs.map (orC 3)), own 3 1 (.slice na (((nmI X 3 q)).length) nc) (((nmI X 3 q)).length) (((nmI X 3 q)).map (Value.int .i64)), pt b15 #[.int .i64 3, .int .i64 ((n : Int)), .int .i64 0, .slice none 0 0, .slice none 0 0, .slice ac rs.length cc] 25, own 69 4 (.slice (some ⟨g8, 0, none⟩) X.length c6) X.length (tokv X), pt b3 cz0 25, pt b1 cz0 25] _ := hM
                replace hM := hM.drop 0
                replace hM : Mem _ _ [own 3 1 (.slice ((some ⟨b34, 0, none⟩)) Y.length n) Y.length (Y.map (Value.int .i64)), own 22 1 (.slice a39 (rs.length + 1) c40) (rs.length + 1) (((rs.map orV) ++ [.slice ((some ⟨b34, 0, none⟩)) Y.length n])), bundle (rs.map (orC 3)), own 3 1 (.slice na (((nmI X 3 q)).length) nc) (((nmI X 3 q)).length) (((nmI X 3 q)).map (Value.int .i64)), pt b15 #[.int .i64 3, .int .i64 ((n : Int)), .int .i64 0, .slice none 0 0, .slice none 0 0, .slice ac rs.length cc] 25, own 69 4 (.slice (some ⟨g8, 0, none⟩) X.length c6) X.length (tokv X), pt b3 cz0 25, pt b1 cz0 25] _ := hM
                refine S.val hA (R.fieldAddr (q := 5) fi25_5 rfl rfl rfl) rfl ?_; clear hA a; intro a hA
                refine S.store (k := 4) hA hM sz23 rfl rfl rfl rfl rfl ?_; clear hM
                intro w37 hM
                replace hM : Mem _ _ [own 3 1 (.slice ((some ⟨b34, 0, none⟩)) Y.length n) Y.length (Y.map (Value.int .i64)), own 22 1 (.slice a39 (rs.length + 1) c40) (rs.length + 1) (((rs.map orV) ++ [.slice ((some ⟨b34, 0, none⟩)) Y.length n])), bundle (rs.map (orC 3)), own 3 1 (.slice na (((nmI X 3 q)).length) nc) (((nmI X 3 q)).length) (((nmI X 3 q)).map (Value.int .i64)), pt b15 #[.int .i64 3, .int .i64 ((n : Int)), .int .i64 0, .slice none 0 0, .slice none 0 0, .slice a39 (rs.length + 1) c40] 25, own 69 4 (.slice (some ⟨g8, 0, none⟩) X.length c6) X.length (tokv X), pt b3 cz0 25, pt b1 cz0 25] _ := hM
                refine S.done ?_
                replace hA : St 303 [(2, _), (9, _), (10, _), (12, _), (14, _), (19, _)] a := hA.sub ((.cons rfl (.cons rfl (.cons rfl (.cons rfl (.cons rfl (.cons rfl .nil)))))))
                refine Ends.inBlock (Ends.region ?_)
                refine S.val hA (R.move rfl) rfl ?_; clear hA a; intro a hA
                refine S.val hA (R.addI rfl rfl (r := ((r : Int)) + 1) rfl (by first | omega | (rw [nmI_len]; omega) | (simp only [nmI_len]; omega))) rfl ?_; clear hA a; intro a hA
                refine S.val hA (R.assign rfl) rfl ?_; clear hA a; intro a hA
                refine S.done ?_
                replace hM := hM.front (k := 2) rfl
                replace hM := hM.front (k := 1) rfl
                replace hM := Mem.orCS (rs := rs) hM
                rw [show (Value.slice ((some ⟨b34, 0, none⟩)) Y.length n) = orV (⟨Y, (some ⟨b34, 0, none⟩), n⟩ : OwR) from rfl, orV_snoc', len_snoc' rs (⟨Y, (some ⟨b34, 0, none⟩), n⟩ : OwR)] at hM
                replace hM := hM.front (k := 6) rfl
                replace hM := hM.front (k := 6) rfl
                replace hM := hM.front (k := 6) rfl
                replace hM := hM.front (k := 6) rfl
                replace hM := hM.front (k := 6) rfl
                replace hM := hM.front (k := 5) rfl
                replace hM := hM.front (k := 6) rfl
                have hcn8 : c_ = n := by omega
                rw [hcn8] at hYc
                exact hNext2 ((r + 1, rs ++ [(⟨Y, (some ⟨b34, 0, none⟩), n⟩ : OwR)], a39, c40)) _ _ ((by show n - (r + 1) < n - r; omega)) ⟨hA.sub ((.cons rfl (.cons rfl (.cons rfl (.cons rfl (.cons rfl (.cons rfl .nil))))))), hM, (by omega), (matK_snoc hYs (row_done hYc))⟩
              ·
               refine Ends.exit rfl ?_
               replace hA : St 303 [(2, _), (12, _)] a := hA.sub ((.cons rfl (.cons rfl .nil)))
               refine Ends.seq (Ends.region ?_)
               refine S.val hA (R.loadA sz25 rfl (hM.range (k := 3) rfl) rfl) rfl ?_; clear hA a; intro a hA
               refine S.storeA (k := 6) hA hM sz25 rfl rfl rfl rfl rfl rfl ?_; clear hM
               intro w38 hM
               replace hM : Mem _ _ [own 22 1 (.slice ac rs.length cc) rs.length ((rs.map orV)), bundle (rs.map (orC 3)), own 3 1 (.slice na (((nmI X 3 q)).length) nc) (((nmI X 3 q)).length) (((nmI X 3 q)).map (Value.int .i64)), pt b15 #[.int .i64 3, .int .i64 ((n : Int)), .int .i64 0, .slice none 0 0, .slice none 0 0, .slice ac rs.length cc] 25, own 69 4 (.slice (some ⟨g8, 0, none⟩) X.length c6) X.length (tokv X), pt b3 cz0 25, pt b1 #[.int .i64 3, .int .i64 ((n : Int)), .int .i64 0, .slice none 0 0, .slice none 0 0, .slice ac rs.length cc] 25] _ := hM
               refine S.val hA (R.assign rfl) rfl ?_; clear hA a; intro a hA
               refine S.val hA (R.assign rfl) rfl ?_; clear hA a; intro a hA
               refine S.done ?_
               refine Ends.retC3 (k := 6) Tryd.func29 Tryd.results29 hA hM rfl rfl rfl rfl sz25 rfl ?_
               have hrn9 : r = n := by omega
               subst hrn9
               have g5 := hM.rowsV_ (k := 0) rfl (k2 := 1) rfl
               rw [prs_ok' hse hs0 hpbE (pb_full hw0 hw2 hcn hYs)]
               exact ⟨none, 0, none, 0, ac, cc, by simp only [List.length_map, List.length_nil], ⟨IntSl.nil _, IntSl.nil _, g5⟩, Mem.trans0 hbs hM.nilL⟩
          ·
           refine Ends.region ?_
           refine S.val hA (R.move rfl) rfl ?_; clear hA a; intro a hA
           refine S.val hA (R.neqStr rfl rfl) rfl ?_; clear hA a; intro a hA
           refine S.val hA (R.move rfl) rfl ?_; clear hA a; intro a hA
           refine hA.split (d := 135) rfl ?_ ?_
           ·
            clear hA; intro hg41 hA
            refine S.valg (dj := 135) hA (by kernel_rfl) rfl (R.move rfl) rfl ?_; clear hA a; intro a hA
            refine S.valg (dj := 135) hA (by kernel_rfl) rfl (R.neqStr rfl rfl) rfl ?_; clear hA a; intro a hA
            refine S.val hA (R.pickT rfl rfl) rfl ?_; clear hA a; intro a hA
            refine S.done ?_
            replace hA : St 303 [(2, _), (5, _), (6, _), (9, _), (10, _), (12, _), (138, _)] a := hA.sub ((.cons rfl (.cons rfl (.cons rfl (.cons rfl (.cons rfl (.cons rfl (.cons rfl .nil))))))))
            exact hJ _ _ ⟨hA.sub (.cons rfl (.cons rfl (.cons rfl (.cons rfl (.cons rfl (.cons rfl (.cons (by first | rfl | exact congrArg (fun b => some (Value.bool b)) (by first | exact decide_eq_decide.2 (by omega) | exact or_bool (by omega) | exact and_bool (by omega) | (simp; done) | (simp [hg41]; done) | (have h80 := hg41; (try simp at h80); simp [h80]; done) | exact (decide_eq_false (fun h9 => hg41 h9.1)).symm)) .nil))))))), hM⟩
           ·
            clear hA; intro hg41 hA
            refine S.no (dj := 135) hA (by kernel_rfl) rfl rfl rfl ?_; clear hA a; intro a hA
            refine S.no (dj := 135) hA (by kernel_rfl) rfl rfl rfl ?_; clear hA a; intro a hA
            refine S.val hA (R.pickF rfl rfl) rfl ?_; clear hA a; intro a hA
            refine S.done ?_
            replace hA : St 303 [(2, _), (5, _), (6, _), (9, _), (10, _), (12, _), (138, _)] a := hA.sub ((.cons rfl (.cons rfl (.cons rfl (.cons rfl (.cons rfl (.cons rfl (.cons rfl .nil))))))))
            exact hJ _ _ ⟨hA.sub (.cons rfl (.cons rfl (.cons rfl (.cons rfl (.cons rfl (.cons rfl (.cons (by first | rfl | exact congrArg (fun b => some (Value.bool b)) (by first | exact decide_eq_decide.2 (by omega) | exact or_bool (by omega) | exact and_bool (by omega) | (simp; done) | (simp [hg41]; done) | (have h80 := hg41; (try simp at h80); simp [h80]; done) | exact (decide_eq_false (fun h9 => hg41 h9.1)).symm)) .nil))))))), hM⟩
   ·
    refine Ends.region ?_
    refine S.val hA (R.move rfl) rfl ?_; clear hA a; intro a hA
    refine S.val hA (R.indexAddr (q := 0 * 4) sl65 rfl rfl (by first | omega | (rw [nmI_len]; omega) | (simp only [nmI_len]; omega)) (by first | omega | (rw [nmI_len]; omega) | (simp only [nmI_len]; omega))) rfl ?_; clear hA a; intro a hA
    refine S.val hA (R.fieldAddr (q := 0 * 4 + 0) fi69_0 rfl rfl rfl) rfl ?_; clear hA a; intro a hA
    refine S.val hA (R.load sz3 rfl (hM.tokRow (k := 0) rfl (i := 0) (by omega) 0 _ rfl)) rfl ?_; clear hA a; intro a hA
    refine S.val hA (R.eql rfl rfl) rfl ?_; clear hA a; intro a hA
    refine S.val hA (R.move rfl) rfl ?_; clear hA a; intro a hA
    refine hA.split (d := 53) rfl ?_ ?_
    ·
     clear hA; intro hg42 hA
     refine S.no (dj := 53) hA (by kernel_rfl) rfl rfl rfl ?_; clear hA a; intro a hA
     refine S.no (dj := 53) hA (by kernel_rfl) rfl rfl rfl ?_; clear hA a; intro a hA
     refine S.no (dj := 53) hA (by kernel_rfl) rfl rfl rfl ?_; clear hA a; intro a hA
     refine S.noU (dj := 56) hA (by kernel_rfl) rfl rfl ?_; clear hA a; intro a hA
     refine S.noU (dj := 56) hA (by kernel_rfl) rfl rfl ?_; clear hA a; intro a hA
     refine S.no (dj := 53) hA (by kernel_rfl) rfl rfl rfl ?_; clear hA a; intro a hA
     refine S.no (dj := 53) hA (by kernel_rfl) rfl rfl rfl ?_; clear hA a; intro a hA
     refine S.noU (dj := 60) hA (by kernel_rfl) rfl rfl ?_; clear hA a; intro a hA
     refine S.noU (dj := 60) hA (by kernel_rfl) rfl rfl ?_; clear hA a; intro a hA
     refine S.no (dj := 53) hA (by kernel_rfl) rfl rfl rfl ?_; clear hA a; intro a hA
     refine S.val hA (R.pickT rfl rfl) rfl ?_; clear hA a; intro a hA
     refine S.done ?_
     replace hA : St 303 [(2, _), (5, _), (6, _), (9, _), (64, _)] a := hA.sub ((.cons rfl (.cons rfl (.cons rfl (.cons rfl (.cons rfl .nil))))))
     exact hJ _ _ ⟨hA.sub (.cons rfl (.cons rfl (.cons rfl (.cons rfl (.cons (by first | rfl | exact congrArg (fun b => some (Value.bool b)) (by first | exact decide_eq_decide.2 (by omega) | exact or_bool (by omega) | exact and_bool (by omega) | (simp; done) | (simp [hg42]; done) | (have h80 := hg42; (try simp at h80); simp [h80]; done) | exact (decide_eq_false (fun h9 => hg42 h9.1)).symm)) .nil))))), hM⟩
    ·
     clear hA; intro hg42 hA
     refine S.valg (dj := 53) hA (by kernel_rfl) rfl (R.move rfl) rfl ?_; clear hA a; intro a hA
     refine S.valg (dj := 53) hA (by kernel_rfl) rfl (R.neqStr rfl rfl) rfl ?_; clear hA a; intro a hA
     refine S.valg (dj := 53) hA (by kernel_rfl) rfl (R.move rfl) rfl ?_; clear hA a; intro a hA
     refine hA.split (d := 56) rfl ?_ ?_
     ·
      clear hA; intro hg43 hA
      refine S.valg (dj := 56) hA (by kernel_rfl) rfl (R.move rfl) rfl ?_; clear hA a; intro a hA
      refine S.valg (dj := 56) hA (by kernel_rfl) rfl (R.neqStr rfl rfl) rfl ?_; clear hA a; intro a hA
      refine S.valg (dj := 53) hA (by kernel_rfl) rfl (R.pickT rfl rfl) rfl ?_; clear hA a; intro a hA
      refine S.valg (dj := 53) hA (by kernel_rfl) rfl (R.move rfl) rfl ?_; clear hA a; intro a hA
      refine hA.split (d := 60) rfl ?_ ?_
      ·
       clear hA; intro hg44 hA
       refine S.valg (dj := 60) hA (by kernel_rfl) rfl (R.move rfl) rfl ?_; clear hA a; intro a hA
       refine S.valg (dj := 60) hA (by kernel_rfl) rfl (R.neqStr rfl rfl) rfl ?_; clear hA a; intro a hA
       refine S.valg (dj := 53) hA (by kernel_rfl) rfl (R.pickT rfl rfl) rfl ?_; clear hA a; intro a hA
       refine S.val hA (R.pickF rfl rfl) rfl ?_; clear hA a; intro a hA
       refine S.done ?_
       replace hA : St 303 [(2, _), (5, _), (6, _), (9, _), (64, _)] a := hA.sub ((.cons rfl (.cons rfl (.cons rfl (.cons rfl (.cons rfl .nil))))))
       exact hJ _ _ ⟨hA.sub (.cons rfl (.cons rfl (.cons rfl (.cons rfl (.cons (by first | rfl | exact congrArg (fun b => some (Value.bool b)) (by first | exact decide_eq_decide.2 (by omega) | exact or_bool (by omega) | exact and_bool (by omega) | (simp; done) | (simp [hg42, hg43, hg44]; done) | (have h80 := hg42; (try simp at h80); have h81 := hg43; (try simp at h81); have h82 := hg44; (try simp at h82); simp [h80, h81, h82]; done) | exact (decide_eq_false (fun h9 => hg42 h9.1)).symm | exact (decide_eq_false (fun h9 => hg43 h9.1)).symm | exact (decide_eq_false (fun h9 => hg44 h9.1)).symm)) .nil))))), hM⟩
      ·
       clear hA; intro hg44 hA
       refine S.no (dj := 60) hA (by kernel_rfl) rfl rfl rfl ?_; clear hA a; intro a hA
       refine S.no (dj := 60) hA (by kernel_rfl) rfl rfl rfl ?_; clear hA a; intro a hA
       refine S.valg (dj := 53) hA (by kernel_rfl) rfl (R.pickF rfl rfl) rfl ?_; clear hA a; intro a hA
       refine S.val hA (R.pickF rfl rfl) rfl ?_; clear hA a; intro a hA
       refine S.done ?_
       replace hA : St 303 [(2, _), (5, _), (6, _), (9, _), (64, _)] a := hA.sub ((.cons rfl (.cons rfl (.cons rfl (.cons rfl (.cons rfl .nil))))))
       exact hJ _ _ ⟨hA.sub (.cons rfl (.cons rfl (.cons rfl (.cons rfl (.cons (by first | rfl | exact congrArg (fun b => some (Value.bool b)) (by first | exact decide_eq_decide.2 (by omega) | exact or_bool (by omega) | exact and_bool (by omega) | (simp; done) | (simp [hg42, hg43, hg44]; done) | (have h80 := hg42; (try simp at h80); have h81 := hg43; (try simp at h81); have h82 := hg44; (try simp at h82); simp [h80, h81, h82]; done) | exact (decide_eq_false (fun h9 => hg42 h9.1)).symm | exact (decide_eq_false (fun h9 => hg43 h9.1)).symm | exact (decide_eq_false (fun h9 => hg44 h9.1)).symm)) .nil))))), hM⟩
     ·
      clear hA; intro hg43 hA
      refine S.no (dj := 56) hA (by kernel_rfl) rfl rfl rfl ?_; clear hA a; intro a hA
      refine S.no (dj := 56) hA (by kernel_rfl) rfl rfl rfl ?_; clear hA a; intro a hA
      refine S.valg (dj := 53) hA (by kernel_rfl) rfl (R.pickF rfl rfl) rfl ?_; clear hA a; intro a hA
      refine S.valg (dj := 53) hA (by kernel_rfl) rfl (R.move rfl) rfl ?_; clear hA a; intro a hA
      refine S.no (dj := 60) hA (by kernel_rfl) rfl rfl rfl ?_; clear hA a; intro a hA
      refine S.no (dj := 60) hA (by kernel_rfl) rfl rfl rfl ?_; clear hA a; intro a hA
      refine S.valg (dj := 53) hA (by kernel_rfl) rfl (R.pickF rfl rfl) rfl ?_; clear hA a; intro a hA
      refine S.val hA (R.pickF rfl rfl) rfl ?_; clear hA a; intro a hA
      refine S.done ?_
      replace hA : St 303 [(2, _), (5, _), (6, _), (9, _), (64, _)] a := hA.sub ((.cons rfl (.cons rfl (.cons rfl (.cons rfl (.cons rfl .nil))))))
      exact hJ _ _ ⟨hA.sub (.cons rfl (.cons rfl (.cons rfl (.cons rfl (.cons (by first | rfl | exact congrArg (fun b => some (Value.bool b)) (by first | exact decide_eq_decide.2 (by omega) | exact or_bool (by omega) | exact and_bool (by omega) | (simp; done) | (simp [hg42, hg43]; done) | (have h80 := hg42; (try simp at h80); have h81 := hg43; (try simp at h81); simp [h80, h81]; done) | exact (decide_eq_false (fun h9 => hg42 h9.1)).symm | exact (decide_eq_false (fun h9 => hg43 h9.1)).symm)) .nil))))), hM⟩
set_option maxRecDepth 100000 in
set_option maxHeartbeats 4000000 in
theorem rparse06_UP (s : ByteArray) (hs : s.size ≤ 9223372036854775807) (X : List Tok) (p0 e0 : Int) (hse : scan s = (X, p0, e0)) (hcs : (X.getD 0 tz).x ≠ ⟨#[75, 78, 65, 80, 83, 65, 67, 75]⟩ ∧ (X.getD 0 tz).x ≠ ⟨#[65, 83, 83, 73, 71, 78, 77, 69, 78, 84]⟩ ∧ (X.getD 2 tz).x ≠ ⟨#[70, 85, 76, 76]⟩) (w : World) :
  Calls Tryd.prog 29 #[.string s] w fun e w' => ∃ a3 c3 a4 c4 a5 c5, e = .returned (.tuple #[.agg #[.int .i64 (prs s).1.kind, .int .i64 (prs s).1.n, .int .i64 (prs s).1.cap, .slice a3 (prs s).1.wt.length c3, .slice a4 (prs s).1.vl.length c4, .slice a5 (prs s).1.cost.length c5], .int .i64 (prs s).2.1, .int .i64 (prs s).2.2]) ∧ (IntSl w' (.slice a3 (prs s).1.wt.length c3) (prs s).1.wt ∧ IntSl w' (.slice a4 (prs s).1.vl.length c4) (prs s).1.vl ∧ RowsV w' (.slice a5 (prs s).1.cost.length c5) (prs s).1.cost) ∧ Below w.heap.size w w' := by
 have hbs := Below.refl (B := w.heap.size) w
 have hM := Mem.start w
 refine Calls.of_ends (vs := [.string s]) Tryd.func29 rfl Tryd.ntmps29 rfl ?_
 intro a hA
 replace hA : St 303 [(0, _)] a := hA
 refine Ends.seq (Ends.region ?_)
 refine S.alloc hA hM info25 rfl rfl ?_; clear hA hM a; intro b1 w1 hb2 hM a hA
 replace hM : Mem _ _ [pt b1 cz0 25] _ := hM
 refine S.val hA (R.assign rfl) rfl ?_; clear hA a; intro a hA
 refine S.val hA (R.assign rfl) rfl ?_; clear hA a; intro a hA
 refine S.done ?_
 refine Ends.seq (Ends.region ?_)
 refine S.val hA (R.build (cells := cz0) rfl (by kernel_rfl)) rfl ?_; clear hA a; intro a hA
 refine S.alloc hA hM info25 rfl rfl ?_; clear hA hM a; intro b3 w2 hb4 hM a hA
 replace hM : Mem _ _ [pt b3 cz0 25, pt b1 cz0 25] _ := hM
 refine S.storeA (k := 0) hA hM sz25 rfl rfl rfl rfl rfl rfl ?_; clear hM
 intro w3 hM
 replace hM : Mem _ _ [pt b3 cz0 25, pt b1 cz0 25] _ := hM
 refine S.done ?_
 refine Ends.seq (Ends.region ?_)
 refine S.val hA (R.move rfl) rfl ?_; clear hA a; intro a hA
 have hlen : X.length ≤ 1000000 := by have h9 := scan_len s; rw [hse] at h9; exact h9
 refine S.call hA (R.callF Tryd.func49 rfl rfl rfl) rfl (rscan_eq s (by omega) X p0 e0 hse _) ?_; clear hA a
 rintro e w4 ⟨a5, c6, rfl, hn⟩
 replace hM : Mem _ _ [own 69 4 (.slice a5 X.length c6) X.length (tokv X), pt b3 cz0 25, pt b1 cz0 25] _ := hM.call hn; clear hn
 refine ⟨.tuple #[.slice a5 X.length c6, .int .i64 p0, .int .i64 e0], rfl, fun a hA => ?_⟩
 refine S.val hA (R.move rfl) rfl ?_; clear hA a; intro a hA
 refine S.val hA (R.extract (v := .slice a5 X.length c6) rfl rfl) rfl ?_; clear hA a; intro a hA
 refine S.val hA (R.extract (v := .int .i64 p0) rfl rfl) rfl ?_; clear hA a; intro a hA
 refine S.val hA (R.extract (v := .int .i64 e0) rfl rfl) rfl ?_; clear hA a; intro a hA
 refine S.val hA (R.assign rfl) rfl ?_; clear hA a; intro a hA
 refine S.val hA (R.assign rfl) rfl ?_; clear hA a; intro a hA
 refine S.val hA (R.assign rfl) rfl ?_; clear hA a; intro a hA
 refine S.done ?_
 replace hA : St 303 [(2, _), (5, _), (6, _), (7, _), (8, _)] a := hA.sub ((.cons rfl (.cons rfl (.cons rfl (.cons rfl (.cons rfl .nil))))))
 refine Ends.seq (Ends.seq (Ends.region ?_))
 refine S.val hA (R.move rfl) rfl ?_; clear hA a; intro a hA
 refine S.val hA (R.neq rfl rfl) rfl ?_; clear hA a; intro a hA
 refine S.done ?_
 refine Ends.ite hA rfl (fun hc7 => ?_) (fun hc7 => ?_)
 ·
  refine Ends.seq (Ends.region ?_)
  refine S.val hA (R.loadA sz25 rfl (hM.range (k := 1) rfl) rfl) rfl ?_; clear hA a; intro a hA
  refine S.val hA (R.move rfl) rfl ?_; clear hA a; intro a hA
  refine S.val hA (R.move rfl) rfl ?_; clear hA a; intro a hA
  refine S.storeA (k := 2) hA hM sz25 rfl rfl rfl rfl rfl rfl ?_; clear hM
  intro w5 hM
  replace hM : Mem _ _ [own 69 4 (.slice a5 X.length c6) X.length (tokv X), pt b3 cz0 25, pt b1 cz0 25] _ := hM
  refine S.val hA (R.assign rfl) rfl ?_; clear hA a; intro a hA
  refine S.val hA (R.assign rfl) rfl ?_; clear hA a; intro a hA
  refine S.done ?_
  replace hA : St 303 [(2, _), (3, _), (4, _), (5, _), (6, _)] a := hA.sub ((.cons rfl (.cons rfl (.cons rfl (.cons rfl (.cons rfl .nil))))))
  refine Ends.retC3 (k := 2) Tryd.func29 Tryd.results29 hA hM rfl rfl rfl rfl sz25 rfl ?_
  rw [prs_scan' hse hc7]
  exact ⟨none, 0, none, 0, none, 0, rfl, nilI _, Mem.trans0 hbs hM.nilL⟩
 ·
  have hs0 := Decidable.not_not.1 hc7
  have hX : Toks X := by have h9 := scan_toks (s := s) (by rw [hse]; exact hs0) (by rw [hse]; exact hlen); rw [hse] at h9; exact h9
  have hX0 := hX.pos
  obtain ⟨g8, hg8⟩ := hM.ownAt (k := 0) rfl hX.pos
  subst hg8
  replace hM : Mem _ _ [own 69 4 (.slice (some ⟨g8, 0, none⟩) X.length c6) X.length (tokv X), pt b3 cz0 25, pt b1 cz0 25] _ := hM
  refine Ends.skip (Ends.seq (Ends.seq (Ends.region ?_)))
  refine S.val hA (R.move rfl) rfl ?_; clear hA a; intro a hA
  refine S.val hA (R.indexAddr (q := 0 * 4) sl65 rfl rfl (by first | omega | (rw [nmI_len]; omega) | (simp only [nmI_len]; omega)) (by first | omega | (rw [nmI_len]; omega) | (simp only [nmI_len]; omega))) rfl ?_; clear hA a; intro a hA
  refine S.val hA (R.fieldAddr (q := 0 * 4 + 0) fi69_0 rfl rfl rfl) rfl ?_; clear hA a; intro a hA
  refine S.val hA (R.load sz3 rfl (hM.tokRow (k := 0) rfl (i := 0) (by omega) 0 _ rfl)) rfl ?_; clear hA a; intro a hA
  refine S.val hA (R.eql rfl rfl) rfl ?_; clear hA a; intro a hA
  refine S.done ?_
  replace hA : St 303 [(2, _), (5, _), (6, _), (38, _)] a := hA.sub ((.cons rfl (.cons rfl (.cons rfl (.cons rfl .nil)))))
  refine Ends.ite hA rfl (fun hc9 => ?_) (fun hc9 => ?_)
  ·
   refine Ends.seq ?_
   refine Ends.drawn (Mem w nof [own 69 4 (.slice (some ⟨g8, 0, none⟩) X.length c6) X.length (tokv X), pt b3 cz0 25]) (.cons (0, true) (.cons (1, true) (.cons (2, true) (.cons (3, true) (.cons (4, true) (.cons (5, false) (.cons (6, true) (.cons (7, true) .nil)))))))) 8 mixed (by kernel_rfl) (by kernel_rfl) (by kernel_rfl) (hM.drop 2).drew ?_
   replace hM := hM.drew
   refine D.val hA rfl (by kernel_rfl) (fun _ hM => R.loadA sz25 rfl (hM.range (k := 1) rfl) rfl) rfl ?_; clear hA a; intro a hA
   refine D.valF hA rfl (fun _ => R.move rfl) rfl ?_; clear hA a; intro a hA
   refine D.valF hA rfl (fun _ => R.indexAddr (q := 0 * 4) sl65 rfl rfl (by first | omega | (rw [nmI_len]; omega) | (simp only [nmI_len]; omega)) (by first | omega | (rw [nmI_len]; omega) | (simp only [nmI_len]; omega))) rfl ?_; clear hA a; intro a hA
   refine D.valF hA rfl (fun _ => R.fieldAddr (q := 0 * 4 + 3) fi69_3 rfl rfl rfl) rfl ?_; clear hA a; intro a hA
   refine D.val hA rfl (by kernel_rfl) (fun _ hM => R.load sz3 rfl (hM.tokRow (k := 0) rfl (i := 0) (by omega) 3 _ rfl)) rfl ?_; clear hA a; intro a hA
   refine D.storeA (k := 2) hA hM rfl sz25 rfl rfl rfl rfl rfl rfl ?_; clear hM
   intro w6 hM; refine ⟨fun _ _ => (hM.drop 2), ?_⟩
   replace hM : Mem _ _ [own 69 4 (.slice (some ⟨g8, 0, none⟩) X.length c6) X.length (tokv X), pt b3 cz0 25, pt b1 cz0 25] _ := hM
   refine D.valF hA rfl (fun _ => R.assign rfl) rfl ?_; clear hA a; intro a hA
   refine D.valF hA rfl (fun _ => R.assign rfl) rfl ?_; clear hA a; intro a hA
   refine D.done ?_
   replace hA : St 303 [(2, _), (3, _), (4, _), (5, _), (6, _)] a := hA.sub ((.cons rfl (.cons rfl (.cons rfl (.cons rfl (.cons rfl .nil))))))
   refine Ends.retC3 (k := 2) Tryd.func29 Tryd.results29 hA hM rfl rfl rfl rfl sz25 rfl ?_
   have hpb : pbR X = (6, 0) := pb_w (wordR_end hc9) (by decide)
   rw [prs_bad' hse hs0 hpb (by decide)]
   exact ⟨none, 0, none, 0, none, 0, rfl, nilI _, Mem.trans0 hbs hM.nilL⟩
  ·
   have k03 : ¬ (X.getD 0 tz).k = 3 := hc9
   have hj1 := hX.next 0 hX0 k03
   refine Ends.skip (Ends.seq (Ends.region ?_))
   refine S.val hA (R.move rfl) rfl ?_; clear hA a; intro a hA
   refine S.val hA (R.indexAddr (q := 0 * 4) sl65 rfl rfl (by first | omega | (rw [nmI_len]; omega) | (simp only [nmI_len]; omega)) (by first | omega | (rw [nmI_len]; omega) | (simp only [nmI_len]; omega))) rfl ?_; clear hA a; intro a hA
   refine S.val hA (R.fieldAddr (q := 0 * 4 + 1) fi69_1 rfl rfl rfl) rfl ?_; clear hA a; intro a hA
   refine S.val hA (R.load sz9 rfl (hM.tokRow (k := 0) rfl (i := 0) (by omega) 1 _ rfl)) rfl ?_; clear hA a; intro a hA
   refine S.val hA (R.assign rfl) rfl ?_; clear hA a; intro a hA
   refine S.done ?_
   replace hA : St 303 [(2, _), (5, _), (6, _), (9, _)] a := hA.sub ((.cons rfl (.cons rfl (.cons rfl (.cons rfl .nil)))))
   refine Ends.seq (Ends.seq ?_)
   refine Ends.cut (fun (a : Act) (wv : World) => St 303 [(2, .pointer (some ⟨b1, 0, none⟩)), (5, .pointer (some ⟨b3, 0, none⟩)), (6, .slice (some ⟨g8, 0, none⟩) X.length c6), (9, .string ((X.getD 0 tz).x)), (64, .bool (decide ((((X.getD 0 tz).k) = 2 ∨ (((X.getD 0 tz).x ≠ ⟨#[75, 78, 65, 80, 83, 65, 67, 75]⟩ ∧ (X.getD 0 tz).x ≠ ⟨#[65, 83, 83, 73, 71, 78, 77, 69, 78, 84]⟩) ∧ (X.getD 0 tz).x ≠ ⟨#[84, 83, 80]⟩)))))] a ∧ Mem w nof [own 69 4 (.slice (some ⟨g8, 0, none⟩) X.length c6) X.length (tokv X), pt b3 cz0 25, pt b1 cz0 25] wv) ?_ (fun k2 hJ => ?_)
   ·
    clear hA hM a; rintro a w7 ⟨hA, hM⟩
    refine Ends.ite hA rfl (fun hc10 => ?_) (fun hc10 => ?_)
    ·
     refine Ends.seq ?_
     refine Ends.drawn (Mem w nof [own 69 4 (.slice (some ⟨g8, 0, none⟩) X.length c6) X.length (tokv X), pt b3 cz0 25]) (.cons (0, true) (.cons (1, true) (.cons (2, true) (.cons (3, true) (.cons (4, true) (.cons (5, false) (.cons (6, true) (.cons (7, true) .nil)))))))) 8 mixed (by kernel_rfl) (by kernel_rfl) (by kernel_rfl) (hM.drop 2).drew ?_
     replace hM := hM.drew
     refine D.val hA rfl (by kernel_rfl) (fun _ hM => R.loadA sz25 rfl (hM.range (k := 1) rfl) rfl) rfl ?_; clear hA a; intro a hA
     refine D.valF hA rfl (fun _ => R.move rfl) rfl ?_; clear hA a; intro a hA
     refine D.valF hA rfl (fun _ => R.indexAddr (q := 0 * 4) sl65 rfl rfl (by first | omega | (rw [nmI_len]; omega) | (simp only [nmI_len]; omega)) (by first | omega | (rw [nmI_len]; omega) | (simp only [nmI_len]; omega))) rfl ?_; clear hA a; intro a hA
     refine D.valF hA rfl (fun _ => R.fieldAddr (q := 0 * 4 + 3) fi69_3 rfl rfl rfl) rfl ?_; clear hA a; intro a hA
     refine D.val hA rfl (by kernel_rfl) (fun _ hM => R.load sz3 rfl (hM.tokRow (k := 0) rfl (i := 0) (by omega) 3 _ rfl)) rfl ?_; clear hA a; intro a hA
     refine D.storeA (k := 2) hA hM rfl sz25 rfl rfl rfl rfl rfl rfl ?_; clear hM
     intro w8 hM; refine ⟨fun _ _ => (hM.drop 2), ?_⟩
     replace hM : Mem _ _ [own 69 4 (.slice (some ⟨g8, 0, none⟩) X.length c6) X.length (tokv X), pt b3 cz0 25, pt b1 cz0 25] _ := hM
     refine D.valF hA rfl (fun _ => R.assign rfl) rfl ?_; clear hA a; intro a hA
     refine D.valF hA rfl (fun _ => R.assign rfl) rfl ?_; clear hA a; intro a hA
     refine D.done ?_
     replace hA : St 303 [(2, _), (3, _), (4, _), (5, _), (6, _), (9, _)] a := hA.sub ((.cons rfl (.cons rfl (.cons rfl (.cons rfl (.cons rfl (.cons rfl .nil)))))))
     refine Ends.retC3 (k := 2) Tryd.func29 Tryd.results29 hA hM rfl rfl rfl rfl sz25 rfl ?_
     have hpb : pbR X = (3, 0) := pb_w (w3_no k03 (by have h9 := hc10; simp only [wKN, wAS, wTS]; exact h9.imp_right fun g => ⟨g.1.1, g.1.2, g.2⟩)) (by decide)
     rw [prs_bad' hse hs0 hpb (by decide)]
     exact ⟨none, 0, none, 0, none, 0, rfl, nilI _, Mem.trans0 hbs hM.nilL⟩
    ·
     have hnw := hc10
     refine Ends.skip (Ends.seq (Ends.seq ?_))
     have hts : (X.getD 0 tz).x = ⟨#[84, 83, 80]⟩ := Classical.byContradiction fun h9 => hnw (.inr ⟨⟨hcs.1, hcs.2.1⟩, h9⟩)
     have hk01 := hX.one hX0 k03 hts (by decide)
     have hw0 := w3_ts hk01 hts
     rw [hts] at hA
     refine Ends.region ?_
     refine S.val hA (R.move rfl) rfl ?_; clear hA a; intro a hA
     refine S.val hA (R.indexAddr (q := 1 * 4) sl65 rfl rfl (by first | omega | (rw [nmI_len]; omega) | (simp only [nmI_len]; omega)) (by first | omega | (rw [nmI_len]; omega) | (simp only [nmI_len]; omega))) rfl ?_; clear hA a; intro a hA
     refine S.val hA (R.fieldAddr (q := 1 * 4 + 0) fi69_0 rfl rfl rfl) rfl ?_; clear hA a; intro a hA
     refine S.val hA (R.load sz3 rfl (hM.tokRow (k := 0) rfl (i := 1) (by omega) 0 _ rfl)) rfl ?_; clear hA a; intro a hA
     refine S.val hA (R.eql rfl rfl) rfl ?_; clear hA a; intro a hA
     refine S.done ?_
     replace hA : St 303 [(2, _), (5, _), (6, _), (9, _), (74, _)] a := hA.sub ((.cons rfl (.cons rfl (.cons rfl (.cons rfl (.cons rfl .nil))))))
     refine Ends.ite hA rfl (fun hc11 => ?_) (fun hc11 => ?_)
     ·
      refine Ends.seq ?_
      refine Ends.drawn (Mem w nof [own 69 4 (.slice (some ⟨g8, 0, none⟩) X.length c6) X.length (tokv X), pt b3 cz0 25]) (.cons (0, true) (.cons (1, true) (.cons (2, true) (.cons (3, true) (.cons (4, true) (.cons (5, false) (.cons (6, true) (.cons (7, true) .nil)))))))) 8 mixed (by kernel_rfl) (by kernel_rfl) (by kernel_rfl) (hM.drop 2).drew ?_
      replace hM := hM.drew
      refine D.val hA rfl (by kernel_rfl) (fun _ hM => R.loadA sz25 rfl (hM.range (k := 1) rfl) rfl) rfl ?_; clear hA a; intro a hA
      refine D.valF hA rfl (fun _ => R.move rfl) rfl ?_; clear hA a; intro a hA
      refine D.valF hA rfl (fun _ => R.indexAddr (q := 1 * 4) sl65 rfl rfl (by first | omega | (rw [nmI_len]; omega) | (simp only [nmI_len]; omega)) (by first | omega | (rw [nmI_len]; omega) | (simp only [nmI_len]; omega))) rfl ?_; clear hA a; intro a hA
      refine D.valF hA rfl (fun _ => R.fieldAddr (q := 1 * 4 + 3) fi69_3 rfl rfl rfl) rfl ?_; clear hA a; intro a hA
      refine D.val hA rfl (by kernel_rfl) (fun _ hM => R.load sz3 rfl (hM.tokRow (k := 0) rfl (i := 1) (by omega) 3 _ rfl)) rfl ?_; clear hA a; intro a hA
      refine D.storeA (k := 2) hA hM rfl sz25 rfl rfl rfl rfl rfl rfl ?_; clear hM
      intro w9 hM; refine ⟨fun _ _ => (hM.drop 2), ?_⟩
      replace hM : Mem _ _ [own 69 4 (.slice (some ⟨g8, 0, none⟩) X.length c6) X.length (tokv X), pt b3 cz0 25, pt b1 cz0 25] _ := hM
      refine D.valF hA rfl (fun _ => R.assign rfl) rfl ?_; clear hA a; intro a hA
      refine D.valF hA rfl (fun _ => R.assign rfl) rfl ?_; clear hA a; intro a hA
      refine D.done ?_
      replace hA : St 303 [(2, _), (3, _), (4, _), (5, _), (6, _), (9, _)] a := hA.sub ((.cons rfl (.cons rfl (.cons rfl (.cons rfl (.cons rfl (.cons rfl .nil)))))))
      refine Ends.retC3 (k := 2) Tryd.func29 Tryd.results29 hA hM rfl rfl rfl rfl sz25 rfl ?_
      have hpb : pbR X = (6, 1) := pb_b hw0 rfl (bodR_cnt3 (c := 6) (cnt_6 hc11) (by decide)) (by decide)
      rw [prs_bad' hse hs0 hpb (by decide)]
      exact ⟨none, 0, none, 0, none, 0, rfl, nilI _, Mem.trans0 hbs hM.nilL⟩
     ·
      have k13 : ¬ (X.getD 1 tz).k = 3 := hc11
      have hj2 := hX.next 1 hj1 k13
      refine Ends.skip (Ends.seq (Ends.seq (Ends.region ?_)))
      refine S.val hA (R.move rfl) rfl ?_; clear hA a; intro a hA
      refine S.val hA (R.indexAddr (q := 1 * 4) sl65 rfl rfl (by first | omega | (rw [nmI_len]; omega) | (simp only [nmI_len]; omega)) (by first | omega | (rw [nmI_len]; omega) | (simp only [nmI_len]; omega))) rfl ?_; clear hA a; intro a hA
      refine S.val hA (R.fieldAddr (q := 1 * 4 + 0) fi69_0 rfl rfl rfl) rfl ?_; clear hA a; intro a hA
      refine S.val hA (R.load sz3 rfl (hM.tokRow (k := 0) rfl (i := 1) (by omega) 0 _ rfl)) rfl ?_; clear hA a; intro a hA
      refine S.val hA (R.eql rfl rfl) rfl ?_; clear hA a; intro a hA
      refine S.done ?_
      replace hA : St 303 [(2, _), (5, _), (6, _), (9, _), (84, _)] a := hA.sub ((.cons rfl (.cons rfl (.cons rfl (.cons rfl (.cons rfl .nil))))))
      refine Ends.ite hA rfl (fun hc12 => ?_) (fun hc12 => ?_)
      ·
       refine Ends.seq ?_
       refine Ends.drawn (Mem w nof [own 69 4 (.slice (some ⟨g8, 0, none⟩) X.length c6) X.length (tokv X), pt b3 cz0 25]) (.cons (0, true) (.cons (1, true) (.cons (2, true) (.cons (3, true) (.cons (4, true) (.cons (5, false) (.cons (6, true) (.cons (7, true) .nil)))))))) 8 mixed (by kernel_rfl) (by kernel_rfl) (by kernel_rfl) (hM.drop 2).drew ?_
       replace hM := hM.drew
       refine D.val hA rfl (by kernel_rfl) (fun _ hM => R.loadA sz25 rfl (hM.range (k := 1) rfl) rfl) rfl ?_; clear hA a; intro a hA
       refine D.valF hA rfl (fun _ => R.move rfl) rfl ?_; clear hA a; intro a hA
       refine D.valF hA rfl (fun _ => R.indexAddr (q := 1 * 4) sl65 rfl rfl (by first | omega | (rw [nmI_len]; omega) | (simp only [nmI_len]; omega)) (by first | omega | (rw [nmI_len]; omega) | (simp only [nmI_len]; omega))) rfl ?_; clear hA a; intro a hA
       refine D.valF hA rfl (fun _ => R.fieldAddr (q := 1 * 4 + 3) fi69_3 rfl rfl rfl) rfl ?_; clear hA a; intro a hA
       refine D.val hA rfl (by kernel_rfl) (fun _ hM => R.load sz3 rfl (hM.tokRow (k := 0) rfl (i := 1) (by omega) 3 _ rfl)) rfl ?_; clear hA a; intro a hA
       refine D.storeA (k := 2) hA hM rfl sz25 rfl rfl rfl rfl rfl rfl ?_; clear hM
       intro w10 hM; refine ⟨fun _ _ => (hM.drop 2), ?_⟩
       replace hM : Mem _ _ [own 69 4 (.slice (some ⟨g8, 0, none⟩) X.length c6) X.length (tokv X), pt b3 cz0 25, pt b1 cz0 25] _ := hM
       refine D.valF hA rfl (fun _ => R.assign rfl) rfl ?_; clear hA a; intro a hA
       refine D.valF hA rfl (fun _ => R.assign rfl) rfl ?_; clear hA a; intro a hA
       refine D.done ?_
       replace hA : St 303 [(2, _), (3, _), (4, _), (5, _), (6, _), (9, _)] a := hA.sub ((.cons rfl (.cons rfl (.cons rfl (.cons rfl (.cons rfl (.cons rfl .nil)))))))
       refine Ends.retC3 (k := 2) Tryd.func29 Tryd.results29 hA hM rfl rfl rfl rfl sz25 rfl ?_
       have hpb : pbR X = (4, 1) := pb_b hw0 rfl (bodR_cnt3 (c := 4) (cnt_4 k13 hc12) (by decide)) (by decide)
       rw [prs_bad' hse hs0 hpb (by decide)]
       exact ⟨none, 0, none, 0, none, 0, rfl, nilI _, Mem.trans0 hbs hM.nilL⟩
      ·
       have k11 : ¬ (X.getD 1 tz).k = 1 := hc12
       refine Ends.skip (Ends.seq (Ends.region ?_))
       refine S.val hA (R.move rfl) rfl ?_; clear hA a; intro a hA
       refine S.val hA (R.indexAddr (q := 1 * 4) sl65 rfl rfl (by first | omega | (rw [nmI_len]; omega) | (simp only [nmI_len]; omega)) (by first | omega | (rw [nmI_len]; omega) | (simp only [nmI_len]; omega))) rfl ?_; clear hA a; intro a hA
       refine S.val hA (R.fieldAddr (q := 1 * 4 + 2) fi69_2 rfl rfl rfl) rfl ?_; clear hA a; intro a hA
       refine S.val hA (R.load sz3 rfl (hM.tokRow (k := 0) rfl (i := 1) (by omega) 2 _ rfl)) rfl ?_; clear hA a; intro a hA
       refine S.val hA (R.assign rfl) rfl ?_; clear hA a; intro a hA
       refine S.val hA (R.assign rfl) rfl ?_; clear hA a; intro a hA
       refine S.done ?_
       replace hA : St 303 [(2, _), (5, _), (6, _), (9, _), (10, _), (11, _)] a := hA.sub ((.cons rfl (.cons rfl (.cons rfl (.cons rfl (.cons rfl (.cons rfl .nil)))))))
       refine Ends.seq (Ends.seq (Ends.region ?_))
       refine S.val hA (R.move rfl) rfl ?_; clear hA a; intro a hA
       refine S.val hA (R.ff (R.eqlStr rfl rfl) (by first | decide | simp | omega)) rfl ?_; clear hA a; intro a hA
       refine S.done ?_
       refine Ends.condF hA rfl ?_
       refine Ends.skip (Ends.seq (Ends.seq (Ends.region ?_)))
       refine S.val hA (R.move rfl) rfl ?_; clear hA a; intro a hA
       refine S.val hA (R.eql rfl rfl) rfl ?_; clear hA a; intro a hA
       refine S.done ?_
       refine Ends.ite hA rfl (fun hc13 => ?_) (fun hc13 => ?_)
       ·
        refine Ends.seq ?_
        refine Ends.drawn (Mem w nof [own 69 4 (.slice (some ⟨g8, 0, none⟩) X.length c6) X.length (tokv X), pt b3 cz0 25]) (.cons (0, true) (.cons (1, true) (.cons (2, true) (.cons (3, true) (.cons (4, true) (.cons (5, false) (.cons (6, true) (.cons (7, true) .nil)))))))) 8 mixed (by kernel_rfl) (by kernel_rfl) (by kernel_rfl) (hM.drop 2).drew ?_
        replace hM := hM.drew
        refine D.val hA rfl (by kernel_rfl) (fun _ hM => R.loadA sz25 rfl (hM.range (k := 1) rfl) rfl) rfl ?_; clear hA a; intro a hA
        refine D.valF hA rfl (fun _ => R.move rfl) rfl ?_; clear hA a; intro a hA
        refine D.valF hA rfl (fun _ => R.indexAddr (q := 1 * 4) sl65 rfl rfl (by first | omega | (rw [nmI_len]; omega) | (simp only [nmI_len]; omega)) (by first | omega | (rw [nmI_len]; omega) | (simp only [nmI_len]; omega))) rfl ?_; clear hA a; intro a hA
        refine D.valF hA rfl (fun _ => R.fieldAddr (q := 1 * 4 + 3) fi69_3 rfl rfl rfl) rfl ?_; clear hA a; intro a hA
        refine D.val hA rfl (by kernel_rfl) (fun _ hM => R.load sz3 rfl (hM.tokRow (k := 0) rfl (i := 1) (by omega) 3 _ rfl)) rfl ?_; clear hA a; intro a hA
        refine D.storeA (k := 2) hA hM rfl sz25 rfl rfl rfl rfl rfl rfl ?_; clear hM
        intro w11 hM; refine ⟨fun _ _ => (hM.drop 2), ?_⟩
        replace hM : Mem _ _ [own 69 4 (.slice (some ⟨g8, 0, none⟩) X.length c6) X.length (tokv X), pt b3 cz0 25, pt b1 cz0 25] _ := hM
        refine D.valF hA rfl (fun _ => R.assign rfl) rfl ?_; clear hA a; intro a hA
        refine D.valF hA rfl (fun _ => R.assign rfl) rfl ?_; clear hA a; intro a hA
        refine D.done ?_
        replace hA : St 303 [(2, _), (3, _), (4, _), (5, _), (6, _), (9, _), (10, _), (11, _)] a := hA.sub ((.cons rfl (.cons rfl (.cons rfl (.cons rfl (.cons rfl (.cons rfl (.cons rfl (.cons rfl .nil)))))))))
        refine Ends.retC3 (k := 2) Tryd.func29 Tryd.results29 hA hM rfl rfl rfl rfl sz25 rfl ?_
        have hpb : pbR X = (1, 1) := pb_b hw0 rfl (bodR_cnt3 (c := 1) (cnt_1 k13 k11 hc13 (by decide)) (by decide)) (by decide)
        rw [prs_bad' hse hs0 hpb (by decide)]
        exact ⟨none, 0, none, 0, none, 0, rfl, nilI _, Mem.trans0 hbs hM.nilL⟩
       ·
        have n10 : ¬ (X.getD 1 tz).n = 0 := hc13
        refine Ends.skip (Ends.seq (Ends.seq (Ends.region ?_)))
        refine S.val hA (R.move rfl) rfl ?_; clear hA a; intro a hA
        refine S.val hA (R.move rfl) rfl ?_; clear hA a; intro a hA
        refine S.val hA (R.gtr rfl rfl) rfl ?_; clear hA a; intro a hA
        refine S.done ?_
        replace hA : St 303 [(2, _), (5, _), (6, _), (9, _), (10, _), (105, _)] a := hA.sub ((.cons rfl (.cons rfl (.cons rfl (.cons rfl (.cons rfl (.cons rfl .nil)))))))
        refine Ends.ite hA rfl (fun hc14 => ?_) (fun hc14 => ?_)
        ·
         refine Ends.seq ?_
         refine Ends.drawn (Mem w nof [own 69 4 (.slice (some ⟨g8, 0, none⟩) X.length c6) X.length (tokv X), pt b3 cz0 25]) (.cons (0, true) (.cons (1, true) (.cons (2, true) (.cons (3, true) (.cons (4, true) (.cons (5, false) (.cons (6, true) (.cons (7, true) .nil)))))))) 8 mixed (by kernel_rfl) (by kernel_rfl) (by kernel_rfl) (hM.drop 2).drew ?_
         replace hM := hM.drew
         refine D.val hA rfl (by kernel_rfl) (fun _ hM => R.loadA sz25 rfl (hM.range (k := 1) rfl) rfl) rfl ?_; clear hA a; intro a hA
         refine D.valF hA rfl (fun _ => R.move rfl) rfl ?_; clear hA a; intro a hA
         refine D.valF hA rfl (fun _ => R.indexAddr (q := 1 * 4) sl65 rfl rfl (by first | omega | (rw [nmI_len]; omega) | (simp only [nmI_len]; omega)) (by first | omega | (rw [nmI_len]; omega) | (simp only [nmI_len]; omega))) rfl ?_; clear hA a; intro a hA
         refine D.valF hA rfl (fun _ => R.fieldAddr (q := 1 * 4 + 3) fi69_3 rfl rfl rfl) rfl ?_; clear hA a; intro a hA
         refine D.val hA rfl (by kernel_rfl) (fun _ hM => R.load sz3 rfl (hM.tokRow (k := 0) rfl (i := 1) (by omega) 3 _ rfl)) rfl ?_; clear hA a; intro a hA
         refine D.storeA (k := 2) hA hM rfl sz25 rfl rfl rfl rfl rfl rfl ?_; clear hM
         intro w12 hM; refine ⟨fun _ _ => (hM.drop 2), ?_⟩
         replace hM : Mem _ _ [own 69 4 (.slice (some ⟨g8, 0, none⟩) X.length c6) X.length (tokv X), pt b3 cz0 25, pt b1 cz0 25] _ := hM
         refine D.valF hA rfl (fun _ => R.assign rfl) rfl ?_; clear hA a; intro a hA
         refine D.valF hA rfl (fun _ => R.assign rfl) rfl ?_; clear hA a; intro a hA
         refine D.done ?_
         replace hA : St 303 [(2, _), (3, _), (4, _), (5, _), (6, _), (9, _), (10, _)] a := hA.sub ((.cons rfl (.cons rfl (.cons rfl (.cons rfl (.cons rfl (.cons rfl (.cons rfl .nil))))))))
         refine Ends.retC3 (k := 2) Tryd.func29 Tryd.results29 hA hM rfl rfl rfl rfl sz25 rfl ?_
         have hpb : pbR X = (5, 1) := pb_b hw0 rfl (bodR_cnt3 (c := 5) (cnt_5 k13 k11 hc14) (by decide)) (by decide)
         rw [prs_bad' hse hs0 hpb (by decide)]
         exact ⟨none, 0, none, 0, none, 0, rfl, nilI _, Mem.trans0 hbs hM.nilL⟩
        ·
         have n1m : ¬ 24 < (X.getD 1 tz).n := hc14
         have hn1_ := hX.num 1
         obtain ⟨n, hn⟩ : ∃ n : Nat, (X.getD 1 tz).n = (n : Int) := ⟨(X.getD 1 tz).n.toNat, by omega⟩
         obtain ⟨hc0, hc1⟩ := cnt_0 k13 k11 n1m n10
         have hcn : ctN X 1 24 = n := by unfold ctN; rw [hc1, hn]; rfl
         have hn1 : 1 ≤ n := by omega
         have hn64 : n ≤ 24 := by omega
         rw [hn] at hA
         refine Ends.skip (Ends.seq (Ends.region ?_))
         refine S.val hA (R.move rfl) rfl ?_; clear hA a; intro a hA
         refine S.val hA (R.build (cells := #[.int .i64 1, .int .i64 ((n : Int)), .int .i64 0, .slice none 0 0, .slice none 0 0, .slice none 0 0]) rfl (by kernel_rfl)) rfl ?_; clear hA a; intro a hA
         refine S.alloc hA hM info25 rfl rfl ?_; clear hA hM a; intro b15 w13 hb16 hM a hA
         replace hM : Mem _ _ [pt b15 cz0 25, own 69 4 (.slice (some ⟨g8, 0, none⟩) X.length c6) X.length (tokv X), pt b3 cz0 25, pt b1 cz0 25] _ := hM
         refine S.storeA (k := 0) hA hM sz25 rfl rfl rfl rfl rfl rfl ?_; clear hM
         intro w14 hM
         replace hM : Mem _ _ [pt b15 #[.int .i64 1, .int .i64 ((n : Int)), .int .i64 0, .slice none 0 0, .slice none 0 0, .slice none 0 0] 25, own 69 4 (.slice (some ⟨g8, 0, none⟩) X.length c6) X.length (tokv X), pt b3 cz0 25, pt b1 cz0 25] _ := hM
         refine S.done ?_
         refine Ends.seq (Ends.region ?_)
         refine S.val hA (R.assign rfl) rfl ?_; clear hA a; intro a hA
         refine S.done ?_
         refine Ends.seq (Ends.seq (Ends.region ?_))
         refine S.val hA (R.move rfl) rfl ?_; clear hA a; intro a hA
         refine S.val hA (R.ff (R.eqlStr rfl rfl) (by first | decide | simp | omega)) rfl ?_; clear hA a; intro a hA
         refine S.done ?_
         replace hA : St 303 [(2, _), (5, _), (6, _), (9, _), (10, _), (12, _), (13, _), (114, _)] a := hA.sub ((.cons rfl (.cons rfl (.cons rfl (.cons rfl (.cons rfl (.cons rfl (.cons rfl (.cons rfl .nil)))))))))
         refine Ends.condF hA rfl ?_
         refine Ends.skip (Ends.seq (Ends.seq (Ends.region ?_)))
         refine S.val hA (R.move rfl) rfl ?_; clear hA a; intro a hA
         refine S.val hA (R.tt (R.eqlStr rfl rfl) (by first | decide | simp | omega)) rfl ?_; clear hA a; intro a hA
         refine S.done ?_
         refine Ends.condT hA rfl ?_
         refine Ends.seq (Ends.region ?_)
         refine S.val hA (R.fieldAddr (q := 0) fi25_0 rfl rfl rfl) rfl ?_; clear hA a; intro a hA
         refine S.store (k := 0) hA hM sz3 rfl rfl rfl rfl rfl ?_; clear hM
         intro w15 hM
         replace hM : Mem _ _ [pt b15 #[.int .i64 3, .int .i64 ((n : Int)), .int .i64 0, .slice none 0 0, .slice none 0 0, .slice none 0 0] 25, own 69 4 (.slice (some ⟨g8, 0, none⟩) X.length c6) X.length (tokv X), pt b3 cz0 25, pt b1 cz0 25] _ := hM
         refine S.done ?_
         replace hA : St 303 [(2, _), (5, _), (6, _), (10, _), (12, _)] a := hA.sub ((.cons rfl (.cons rfl (.cons rfl (.cons rfl (.cons rfl .nil))))))
         refine Ends.seq (Ends.seq (Ends.region ?_))
         refine S.val hA (R.move rfl) rfl ?_; clear hA a; intro a hA
         refine S.val hA (R.indexAddr (q := 2 * 4) sl65 rfl rfl (by first | omega | (rw [nmI_len]; omega) | (simp only [nmI_len]; omega)) (by first | omega | (rw [nmI_len]; omega) | (simp only [nmI_len]; omega))) rfl ?_; clear hA a; intro a hA
         refine S.val hA (R.fieldAddr (q := 2 * 4 + 0) fi69_0 rfl rfl rfl) rfl ?_; clear hA a; intro a hA
         refine S.val hA (R.load sz3 rfl (hM.tokRow (k := 1) rfl (i := 2) (by omega) 0 _ rfl)) rfl ?_; clear hA a; intro a hA
         refine S.val hA (R.eql rfl rfl) rfl ?_; clear hA a; intro a hA
         refine S.done ?_
         replace hA : St 303 [(2, _), (5, _), (6, _), (10, _), (12, _), (123, _)] a := hA.sub ((.cons rfl (.cons rfl (.cons rfl (.cons rfl (.cons rfl (.cons rfl .nil)))))))
         refine Ends.ite hA rfl (fun hc17 => ?_) (fun hc17 => ?_)
         ·
          refine Ends.seq ?_
          refine Ends.drawn (Mem w nof [pt b15 #[.int .i64 3, .int .i64 ((n : Int)), .int .i64 0, .slice none 0 0, .slice none 0 0, .slice none 0 0] 25, own 69 4 (.slice (some ⟨g8, 0, none⟩) X.length c6) X.length (tokv X), pt b3 cz0 25]) (.cons (0, true) (.cons (1, true) (.cons (2, true) (.cons (3, true) (.cons (4, true) (.cons (5, false) (.cons (6, true) (.cons (7, true) .nil)))))))) 8 mixed (by kernel_rfl) (by kernel_rfl) (by kernel_rfl) (hM.drop 3).drew ?_
          replace hM := hM.drew
          refine D.val hA rfl (by kernel_rfl) (fun _ hM => R.loadA sz25 rfl (hM.range (k := 2) rfl) rfl) rfl ?_; clear hA a; intro a hA
          refine D.valF hA rfl (fun _ => R.move rfl) rfl ?_; clear hA a; intro a hA
          refine D.valF hA rfl (fun _ => R.indexAddr (q := 2 * 4) sl65 rfl rfl (by first | omega | (rw [nmI_len]; omega) | (simp only [nmI_len]; omega)) (by first | omega | (rw [nmI_len]; omega) | (simp only [nmI_len]; omega))) rfl ?_; clear hA a; intro a hA
          refine D.valF hA rfl (fun _ => R.fieldAddr (q := 2 * 4 + 3) fi69_3 rfl rfl rfl) rfl ?_; clear hA a; intro a hA
          refine D.val hA rfl (by kernel_rfl) (fun _ hM => R.load sz3 rfl (hM.tokRow (k := 1) rfl (i := 2) (by omega) 3 _ rfl)) rfl ?_; clear hA a; intro a hA
          refine D.storeA (k := 3) hA hM rfl sz25 rfl rfl rfl rfl rfl rfl ?_; clear hM
          intro w16 hM; refine ⟨fun _ _ => (hM.drop 3), ?_⟩
          replace hM : Mem _ _ [pt b15 #[.int .i64 3, .int .i64 ((n : Int)), .int .i64 0, .slice none 0 0, .slice none 0 0, .slice none 0 0] 25, own 69 4 (.slice (some ⟨g8, 0, none⟩) X.length c6) X.length (tokv X), pt b3 cz0 25, pt b1 cz0 25] _ := hM
          refine D.valF hA rfl (fun _ => R.assign rfl) rfl ?_; clear hA a; intro a hA
          refine D.valF hA rfl (fun _ => R.assign rfl) rfl ?_; clear hA a; intro a hA
          refine D.done ?_
          replace hA : St 303 [(2, _), (3, _), (4, _), (5, _), (6, _), (10, _), (12, _)] a := hA.sub ((.cons rfl (.cons rfl (.cons rfl (.cons rfl (.cons rfl (.cons rfl (.cons rfl .nil))))))))
          refine Ends.retC3 (k := 3) Tryd.func29 Tryd.results29 hA hM rfl rfl rfl rfl sz25 rfl ?_
          have hpb : pbR X = (6, 2) := pb_b hw0 rfl (bod3w hc0 (wordR_end hc17) (by decide)) (by decide)
          rw [prs_bad' hse hs0 hpb (by decide)]
          exact ⟨none, 0, none, 0, none, 0, rfl, nilI _, Mem.trans0 hbs hM.nilL⟩
         ·
          have k23 : ¬ (X.getD 2 tz).k = 3 := hc17
          have hj3 := hX.next 2 hj2 k23
          refine Ends.skip (Ends.seq (Ends.region ?_))
          refine S.val hA (R.move rfl) rfl ?_; clear hA a; intro a hA
          refine S.val hA (R.indexAddr (q := 2 * 4) sl65 rfl rfl (by first | omega | (rw [nmI_len]; omega) | (simp only [nmI_len]; omega)) (by first | omega | (rw [nmI_len]; omega) | (simp only [nmI_len]; omega))) rfl ?_; clear hA a; intro a hA
          refine S.val hA (R.fieldAddr (q := 2 * 4 + 1) fi69_1 rfl rfl rfl) rfl ?_; clear hA a; intro a hA
          refine S.val hA (R.load sz9 rfl (hM.tokRow (k := 1) rfl (i := 2) (by omega) 1 _ rfl)) rfl ?_; clear hA a; intro a hA
          refine S.val hA (R.assign rfl) rfl ?_; clear hA a; intro a hA
          refine S.done ?_
          replace hA : St 303 [(2, _), (5, _), (6, _), (9, _), (10, _), (12, _)] a := hA.sub ((.cons rfl (.cons rfl (.cons rfl (.cons rfl (.cons rfl (.cons rfl .nil)))))))
          refine Ends.seq (Ends.seq ?_)
          refine Ends.cut (fun (a : Act) (wv : World) => St 303 [(2, .pointer (some ⟨b1, 0, none⟩)), (5, .pointer (some ⟨b3, 0, none⟩)), (6, .slice (some ⟨g8, 0, none⟩) X.length c6), (9, .string ((X.getD 2 tz).x)), (10, .int .i64 ((n : Int))), (12, .pointer (some ⟨b15, 0, none⟩)), (138, .bool (decide (((X.getD 2 tz).x ≠ ⟨#[70, 85, 76, 76]⟩ ∧ (X.getD 2 tz).x ≠ ⟨#[85, 80, 80, 69, 82]⟩))))] a ∧ Mem w nof [pt b15 #[.int .i64 3, .int .i64 ((n : Int)), .int .i64 0, .slice none 0 0, .slice none 0 0, .slice none 0 0] 25, own 69 4 (.slice (some ⟨g8, 0, none⟩) X.length c6) X.length (tokv X), pt b3 cz0 25, pt b1 cz0 25] wv) ?_ (fun k2 hJ => ?_)
          ·
           clear hA hM a; rintro a w17 ⟨hA, hM⟩
           refine Ends.ite hA rfl (fun hc18 => ?_) (fun hc18 => ?_)
           ·
            refine Ends.seq ?_
            refine Ends.drawn (Mem w nof [pt b15 #[.int .i64 3, .int .i64 ((n : Int)), .int .i64 0, .slice none 0 0, .slice none 0 0, .slice none 0 0] 25, own 69 4 (.slice (some ⟨g8, 0, none⟩) X.length c6) X.length (tokv X), pt b3 cz0 25]) (.cons (0, true) (.cons (1, true) (.cons (2, true) (.cons (3, true) (.cons (4, true) (.cons (5, false) (.cons (6, true) (.cons (7, true) .nil)))))))) 8 mixed (by kernel_rfl) (by kernel_rfl) (by kernel_rfl) (hM.drop 3).drew ?_
            replace hM := hM.drew
            refine D.val hA rfl (by kernel_rfl) (fun _ hM => R.loadA sz25 rfl (hM.range (k := 2) rfl) rfl) rfl ?_; clear hA a; intro a hA
            refine D.valF hA rfl (fun _ => R.move rfl) rfl ?_; clear hA a; intro a hA
            refine D.valF hA rfl (fun _ => R.indexAddr (q := 2 * 4) sl65 rfl rfl (by first | omega | (rw [nmI_len]; omega) | (simp only [nmI_len]; omega)) (by first | omega | (rw [nmI_len]; omega) | (simp only [nmI_len]; omega))) rfl ?_; clear hA a; intro a hA
            refine D.valF hA rfl (fun _ => R.fieldAddr (q := 2 * 4 + 3) fi69_3 rfl rfl rfl) rfl ?_; clear hA a; intro a hA
            refine D.val hA rfl (by kernel_rfl) (fun _ hM => R.load sz3 rfl (hM.tokRow (k := 1) rfl (i := 2) (by omega) 3 _ rfl)) rfl ?_; clear hA a; intro a hA
            refine D.storeA (k := 3) hA hM rfl sz25 rfl rfl rfl rfl rfl rfl ?_; clear hM
            intro w18 hM; refine ⟨fun _ _ => (hM.drop 3), ?_⟩
            replace hM : Mem _ _ [pt b15 #[.int .i64 3, .int .i64 ((n : Int)), .int .i64 0, .slice none 0 0, .slice none 0 0, .slice none 0 0] 25, own 69 4 (.slice (some ⟨g8, 0, none⟩) X.length c6) X.length (tokv X), pt b3 cz0 25, pt b1 cz0 25] _ := hM
            refine D.valF hA rfl (fun _ => R.assign rfl) rfl ?_; clear hA a; intro a hA
            refine D.valF hA rfl (fun _ => R.assign rfl) rfl ?_; clear hA a; intro a hA
            refine D.done ?_
            replace hA : St 303 [(2, _), (3, _), (4, _), (5, _), (6, _), (9, _), (10, _), (12, _)] a := hA.sub ((.cons rfl (.cons rfl (.cons rfl (.cons rfl (.cons rfl (.cons rfl (.cons rfl (.cons rfl .nil)))))))))
            refine Ends.retC3 (k := 3) Tryd.func29 Tryd.results29 hA hM rfl rfl rfl rfl sz25 rfl ?_
            have hpb : pbR X = (3, 2) := pb_b hw0 rfl (bod3w hc0 (w2_no k23 hc18) (by decide)) (by decide)
            rw [prs_bad' hse hs0 hpb (by decide)]
            exact ⟨none, 0, none, 0, none, 0, rfl, nilI _, Mem.trans0 hbs hM.nilL⟩
           ·
            have hnw2 := hc18
            refine Ends.skip ?_
            have hup_ : (X.getD 2 tz).x = ⟨#[85, 80, 80, 69, 82]⟩ := Classical.byContradiction fun h9 => hnw2 ⟨hcs.2.2, h9⟩
            have hk21 := hX.one hj2 k23 hup_ (by decide)
            have hw2 := w2_up hk21 hup_
            rw [hup_] at hA
            refine Ends.region ?_
            refine S.val hA (R.assign rfl) rfl ?_; clear hA a; intro a hA
            refine S.done ?_
            refine Ends.seq (Ends.region ?_)
            refine S.val hA (R.assign rfl) rfl ?_; clear hA a; intro a hA
            refine S.done ?_
            refine Ends.seq (Ends.seq (Ends.region ?_))
            refine S.val hA (R.move rfl) rfl ?_; clear hA a; intro a hA
            refine S.val hA (R.move rfl) rfl ?_; clear hA a; intro a hA
            obtain ⟨M, hMv⟩ : ∃ M, hlf n = M := ⟨_, rfl⟩
            refine S.call hA (R.callF Tryd.func50 rfl rfl rfl) rfl (hMv ▸ want_up n hn1 (by omega) _) ?_; clear hA a
            rintro e w19 ⟨rfl, rfl⟩
            refine ⟨.int .i64 ((M : Int)), rfl, fun a hA => ?_⟩
            refine S.val hA (R.assign rfl) rfl ?_; clear hA a; intro a hA
            refine S.done ?_
            replace hA : St 303 [(2, _), (5, _), (6, _), (9, _), (10, _), (12, _), (13, _), (14, _), (15, _)] a := hA.sub ((.cons rfl (.cons rfl (.cons rfl (.cons rfl (.cons rfl (.cons rfl (.cons rfl (.cons rfl (.cons rfl .nil))))))))))
            refine Ends.block ?_
            have hMb : M ≤ 5000 := by have h9 := hlf_le n (by omega); omega
            replace hM := hM.ownNil 3 1
            replace hM : Mem _ _ [own 3 1 (.slice none (((nmI X 3 0)).length) 0) (((nmI X 3 0)).length) (((nmI X 3 0)).map (Value.int .i64)), pt b15 #[.int .i64 3, .int .i64 ((n : Int)), .int .i64 0, .slice none 0 0, .slice none 0 0, .slice none 0 0] 25, own 69 4 (.slice (some ⟨g8, 0, none⟩) X.length c6) X.length (tokv X), pt b3 cz0 25, pt b1 cz0 25] _ := hM
            refine Ends.loop (σ := Nat × Option Addr × Nat) (fun (q, na, nc) (a : Act) (wv : World) => St 303 [(2, .pointer (some ⟨b1, 0, none⟩)), (5, .pointer (some ⟨b3, 0, none⟩)), (6, .slice (some ⟨g8, 0, none⟩) X.length c6), (9, .string (⟨#[85, 80, 80, 69, 82]⟩)), (10, .int .i64 ((n : Int))), (12, .pointer (some ⟨b15, 0, none⟩)), (13, .int .i64 (((3 + q : Nat) : Int))), (14, .slice na ((nmI X 3 q).length) nc), (15, .int .i64 (((M - q : Nat) : Int)))] a ∧ Mem w nof [own 3 1 (.slice na (((nmI X 3 q)).length) nc) (((nmI X 3 q)).length) (((nmI X 3 q)).map (Value.int .i64)), pt b15 #[.int .i64 3, .int .i64 ((n : Int)), .int .i64 0, .slice none 0 0, .slice none 0 0, .slice none 0 0] 25, own 69 4 (.slice (some ⟨g8, 0, none⟩) X.length c6) X.length (tokv X), pt b3 cz0 25, pt b1 cz0 25] wv ∧ (q ≤ M) ∧ (3 + q < X.length) ∧ (∀ r, r < q → nuE (ff r) (X.getD (3 + r) tz) = 0)) (fun (q, na, nc) => M - q) ((0, none, 0)) ⟨hA.sub ((.cons rfl (.cons rfl (.cons rfl (.cons rfl (.cons rfl (.cons rfl (.cons rfl (.cons rfl (.cons rfl .nil)))))))))), hM, (Nat.zero_le _), hj3, (fun r hr => absurd hr (Nat.not_lt_zero r))⟩ ?_
            clear hA hM a
            rintro ⟨q, na, nc⟩ a w20 ⟨hA, hM, hq, hjq, hall⟩ hNext
            refine Ends.seq (Ends.seq (Ends.region ?_))
            refine S.val hA (R.move rfl) rfl ?_; clear hA a; intro a hA
            refine S.val hA (R.gtr rfl rfl) rfl ?_; clear hA a; intro a hA
            refine S.done ?_
            refine Ends.ite hA rfl (fun hc19 => ?_) (fun hc19 => ?_)
            ·
             have hqM : q < M := by omega
             refine Ends.skip (Ends.seq (Ends.block (Ends.seq (Ends.region ?_))))
             refine S.val hA (R.move rfl) rfl ?_; clear hA a; intro a hA
             refine S.val hA (R.move rfl) rfl ?_; clear hA a; intro a hA
             refine S.val hA (R.indexAddr (q := (3 + q) * 4) sl65 rfl rfl (by first | omega | (rw [nmI_len]; omega) | (simp only [nmI_len]; omega)) (by first | omega | (rw [nmI_len]; omega) | (simp only [nmI_len]; omega))) rfl ?_; clear hA a; intro a hA
             refine S.val hA (R.loadA sz69 rfl (hM.tokRow (k := 2) rfl (i := (3 + q)) (by omega)) rfl) rfl ?_; clear hA a; intro a hA
             refine S.alloc hA hM info69 rfl rfl ?_; clear hA hM a; intro b20 w21 hb21 hM a hA
             replace hM : Mem _ _ [pt b20 #[.int .i64 0, .string (⟨#[]⟩), .int .i64 0, .int .i64 0] 69, own 3 1 (.slice na (((nmI X 3 q)).length) nc) (((nmI X 3 q)).length) (((nmI X 3 q)).map (Value.int .i64)), pt b15 #[.int .i64 3, .int .i64 ((n : Int)), .int .i64 0, .slice none 0 0, .slice none 0 0, .slice none 0 0] 25, own 69 4 (.slice (some ⟨g8, 0, none⟩) X.length c6) X.length (tokv X), pt b3 cz0 25, pt b1 cz0 25] _ := hM
             refine S.storeA (k := 0) hA hM sz69 rfl rfl rfl rfl rfl rfl ?_; clear hM
             intro w22 hM
             replace hM : Mem _ _ [pt b20 #[.int .i64 ((X.getD (3 + q) tz).k), .string ((X.getD (3 + q) tz).x), .int .i64 ((X.getD (3 + q) tz).n), .int .i64 ((X.getD (3 + q) tz).a)] 69, own 3 1 (.slice na (((nmI X 3 q)).length) nc) (((nmI X 3 q)).length) (((nmI X 3 q)).map (Value.int .i64)), pt b15 #[.int .i64 3, .int .i64 ((n : Int)), .int .i64 0, .slice none 0 0, .slice none 0 0, .slice none 0 0] 25, own 69 4 (.slice (some ⟨g8, 0, none⟩) X.length c6) X.length (tokv X), pt b3 cz0 25, pt b1 cz0 25] _ := hM
             refine S.done ?_
             replace hA : St 303 [(2, _), (5, _), (6, _), (9, _), (10, _), (12, _), (13, _), (14, _), (15, _), (16, _)] a := hA.sub ((.cons rfl (.cons rfl (.cons rfl (.cons rfl (.cons rfl (.cons rfl (.cons rfl (.cons rfl (.cons rfl (.cons rfl .nil)))))))))))
             refine Ends.seq (Ends.seq (Ends.region ?_))
             refine S.val hA (R.fieldAddr (q := 0) fi69_0 rfl rfl rfl) rfl ?_; clear hA a; intro a hA
             refine S.val hA (R.load sz3 rfl (hM.cell (k := 0) rfl rfl)) rfl ?_; clear hA a; intro a hA
             refine S.val hA (R.eql rfl rfl) rfl ?_; clear hA a; intro a hA
             refine S.done ?_
             refine Ends.ite hA rfl (fun hc22 => ?_) (fun hc22 => ?_)
             ·
              refine Ends.seq ?_
              refine Ends.drawn (Mem w nof [pt b20 #[.int .i64 ((X.getD (3 + q) tz).k), .string ((X.getD (3 + q) tz).x), .int .i64 ((X.getD (3 + q) tz).n), .int .i64 ((X.getD (3 + q) tz).a)] 69, pt b15 #[.int .i64 3, .int .i64 ((n : Int)), .int .i64 0, .slice none 0 0, .slice none 0 0, .slice none 0 0] 25, own 69 4 (.slice (some ⟨g8, 0, none⟩) X.length c6) X.length (tokv X), pt b3 cz0 25]) (.cons (0, true) (.cons (1, true) (.cons (2, true) (.cons (3, false) (.cons (4, true) (.cons (5, true) .nil)))))) 6 mixed (by kernel_rfl) (by kernel_rfl) (by kernel_rfl) ((hM.drop 5).drop 1).drew ?_
              replace hM := hM.drew
              refine D.val hA rfl (by kernel_rfl) (fun _ hM => R.loadA sz25 rfl (hM.range (k := 3) rfl) rfl) rfl ?_; clear hA a; intro a hA
              refine D.valF hA rfl (fun _ => R.fieldAddr (q := 3) fi69_3 rfl rfl rfl) rfl ?_; clear hA a; intro a hA
              refine D.val hA rfl (by kernel_rfl) (fun _ hM => R.load sz3 rfl (hM.cell (k := 0) rfl rfl)) rfl ?_; clear hA a; intro a hA
              refine D.storeA (k := 5) hA hM rfl sz25 rfl rfl rfl rfl rfl rfl ?_; clear hM
              intro w23 hM; refine ⟨fun _ _ => ((hM.drop 5).drop 1), ?_⟩
              replace hM : Mem _ _ [pt b20 #[.int .i64 ((X.getD (3 + q) tz).k), .string ((X.getD (3 + q) tz).x), .int .i64 ((X.getD (3 + q) tz).n), .int .i64 ((X.getD (3 + q) tz).a)] 69, own 3 1 (.slice na (((nmI X 3 q)).length) nc) (((nmI X 3 q)).length) (((nmI X 3 q)).map (Value.int .i64)), pt b15 #[.int .i64 3, .int .i64 ((n : Int)), .int .i64 0, .slice none 0 0, .slice none 0 0, .slice none 0 0] 25, own 69 4 (.slice (some ⟨g8, 0, none⟩) X.length c6) X.length (tokv X), pt b3 cz0 25, pt b1 cz0 25] _ := hM
              refine D.valF hA rfl (fun _ => R.assign rfl) rfl ?_; clear hA a; intro a hA
              refine D.valF hA rfl (fun _ => R.assign rfl) rfl ?_; clear hA a; intro a hA
              refine D.done ?_
              replace hA : St 303 [(2, _), (3, _), (4, _), (5, _), (6, _), (9, _), (10, _), (12, _), (13, _), (14, _), (15, _), (16, _)] a := hA.sub ((.cons rfl (.cons rfl (.cons rfl (.cons rfl (.cons rfl (.cons rfl (.cons rfl (.cons rfl (.cons rfl (.cons rfl (.cons rfl (.cons rfl .nil)))))))))))))
              refine Ends.retC3 (k := 5) Tryd.func29 Tryd.results29 hA hM rfl rfl rfl rfl sz25 rfl ?_
              have hpb : pbR X = (6, (3 + q)) := pb_b hw0 rfl (bod3u hc0 hcn hw2 hMv.symm ((nuR_badP (f := ff) hall rfl (by rw [(numR_end (m := 2147483647) hc22).1]; decide) hqM).trans (by rw [(numR_end (m := 2147483647) hc22).1]))) (by decide)
              rw [prs_bad' hse hs0 hpb (by decide)]
              exact ⟨none, 0, none, 0, none, 0, rfl, nilI _, Mem.trans0 hbs hM.nilL⟩
             ·
              have kq3 : ¬ (X.getD (3 + q) tz).k = 3 := hc22
              have hjn := hX.next (3 + q) hjq kq3
              refine Ends.skip (Ends.seq (Ends.seq (Ends.region ?_)))
              refine S.val hA (R.fieldAddr (q := 0) fi69_0 rfl rfl rfl) rfl ?_; clear hA a; intro a hA
              refine S.val hA (R.load sz3 rfl (hM.cell (k := 0) rfl rfl)) rfl ?_; clear hA a; intro a hA
              refine S.val hA (R.eql rfl rfl) rfl ?_; clear hA a; intro a hA
              refine S.done ?_
              replace hA : St 303 [(2, _), (5, _), (6, _), (9, _), (10, _), (12, _), (13, _), (14, _), (15, _), (16, _), (163, _)] a := hA.sub ((.cons rfl (.cons rfl (.cons rfl (.cons rfl (.cons rfl (.cons rfl (.cons rfl (.cons rfl (.cons rfl (.cons rfl (.cons rfl .nil))))))))))))
              refine Ends.ite hA rfl (fun hc23 => ?_) (fun hc23 => ?_)
              ·
               refine Ends.seq ?_
               refine Ends.drawn (Mem w nof [pt b20 #[.int .i64 ((X.getD (3 + q) tz).k), .string ((X.getD (3 + q) tz).x), .int .i64 ((X.getD (3 + q) tz).n), .int .i64 ((X.getD (3 + q) tz).a)] 69, pt b15 #[.int .i64 3, .int .i64 ((n : Int)), .int .i64 0, .slice none 0 0, .slice none 0 0, .slice none 0 0] 25, own 69 4 (.slice (some ⟨g8, 0, none⟩) X.length c6) X.length (tokv X), pt b3 cz0 25]) (.cons (0, true) (.cons (1, true) (.cons (2, true) (.cons (3, false) (.cons (4, true) (.cons (5, true) .nil)))))) 6 mixed (by kernel_rfl) (by kernel_rfl) (by kernel_rfl) ((hM.drop 5).drop 1).drew ?_
               replace hM := hM.drew
               refine D.val hA rfl (by kernel_rfl) (fun _ hM => R.loadA sz25 rfl (hM.range (k := 3) rfl) rfl) rfl ?_; clear hA a; intro a hA
               refine D.valF hA rfl (fun _ => R.fieldAddr (q := 3) fi69_3 rfl rfl rfl) rfl ?_; clear hA a; intro a hA
               refine D.val hA rfl (by kernel_rfl) (fun _ hM => R.load sz3 rfl (hM.cell (k := 0) rfl rfl)) rfl ?_; clear hA a; intro a hA
               refine D.storeA (k := 5) hA hM rfl sz25 rfl rfl rfl rfl rfl rfl ?_; clear hM
               intro w24 hM; refine ⟨fun _ _ => ((hM.drop 5).drop 1), ?_⟩
               replace hM : Mem _ _ [pt b20 #[.int .i64 ((X.getD (3 + q) tz).k), .string ((X.getD (3 + q) tz).x), .int .i64 ((X.getD (3 + q) tz).n), .int .i64 ((X.getD (3 + q) tz).a)] 69, own 3 1 (.slice na (((nmI X 3 q)).length) nc) (((nmI X 3 q)).length) (((nmI X 3 q)).map (Value.int .i64)), pt b15 #[.int .i64 3, .int .i64 ((n : Int)), .int .i64 0, .slice none 0 0, .slice none 0 0, .slice none 0 0] 25, own 69 4 (.slice (some ⟨g8, 0, none⟩) X.length c6) X.length (tokv X), pt b3 cz0 25, pt b1 cz0 25] _ := hM
               refine D.valF hA rfl (fun _ => R.assign rfl) rfl ?_; clear hA a; intro a hA
               refine D.valF hA rfl (fun _ => R.assign rfl) rfl ?_; clear hA a; intro a hA
               refine D.done ?_
               replace hA : St 303 [(2, _), (3, _), (4, _), (5, _), (6, _), (9, _), (10, _), (12, _), (13, _), (14, _), (15, _), (16, _)] a := hA.sub ((.cons rfl (.cons rfl (.cons rfl (.cons rfl (.cons rfl (.cons rfl (.cons rfl (.cons rfl (.cons rfl (.cons rfl (.cons rfl (.cons rfl .nil)))))))))))))
               refine Ends.retC3 (k := 5) Tryd.func29 Tryd.results29 hA hM rfl rfl rfl rfl sz25 rfl ?_
               have hpb : pbR X = (4, (3 + q)) := pb_b hw0 rfl (bod3u hc0 hcn hw2 hMv.symm ((nuR_badP (f := ff) hall rfl (by rw [(numR_word (m := 2147483647) kq3 hc23).1]; decide) hqM).trans (by rw [(numR_word (m := 2147483647) kq3 hc23).1]))) (by decide)
               rw [prs_bad' hse hs0 hpb (by decide)]
               exact ⟨none, 0, none, 0, none, 0, rfl, nilI _, Mem.trans0 hbs hM.nilL⟩
              ·
               have kq1 : ¬ (X.getD (3 + q) tz).k = 1 := hc23
               refine Ends.skip (Ends.seq (Ends.seq (Ends.region ?_)))
               refine S.val hA (R.fieldAddr (q := 2) fi69_2 rfl rfl rfl) rfl ?_; clear hA a; intro a hA
               refine S.val hA (R.load sz3 rfl (hM.cell (k := 0) rfl rfl)) rfl ?_; clear hA a; intro a hA
               refine S.val hA (R.gtr rfl rfl) rfl ?_; clear hA a; intro a hA
               refine S.done ?_
               refine Ends.ite hA rfl (fun hc24 => ?_) (fun hc24 => ?_)
               ·
                refine Ends.seq ?_
                refine Ends.drawn (Mem w nof [pt b20 #[.int .i64 ((X.getD (3 + q) tz).k), .string ((X.getD (3 + q) tz).x), .int .i64 ((X.getD (3 + q) tz).n), .int .i64 ((X.getD (3 + q) tz).a)] 69, pt b15 #[.int .i64 3, .int .i64 ((n : Int)), .int .i64 0, .slice none 0 0, .slice none 0 0, .slice none 0 0] 25, own 69 4 (.slice (some ⟨g8, 0, none⟩) X.length c6) X.length (tokv X), pt b3 cz0 25]) (.cons (0, true) (.cons (1, true) (.cons (2, true) (.cons (3, false) (.cons (4, true) (.cons (5, true) .nil)))))) 6 mixed (by kernel_rfl) (by kernel_rfl) (by kernel_rfl) ((hM.drop 5).drop 1).drew ?_
                replace hM := hM.drew
                refine D.val hA rfl (by kernel_rfl) (fun _ hM => R.loadA sz25 rfl (hM.range (k := 3) rfl) rfl) rfl ?_; clear hA a; intro a hA
                refine D.valF hA rfl (fun _ => R.fieldAddr (q := 3) fi69_3 rfl rfl rfl) rfl ?_; clear hA a; intro a hA
                refine D.val hA rfl (by kernel_rfl) (fun _ hM => R.load sz3 rfl (hM.cell (k := 0) rfl rfl)) rfl ?_; clear hA a; intro a hA
                refine D.storeA (k := 5) hA hM rfl sz25 rfl rfl rfl rfl rfl rfl ?_; clear hM
                intro w25 hM; refine ⟨fun _ _ => ((hM.drop 5).drop 1), ?_⟩
                replace hM : Mem _ _ [pt b20 #[.int .i64 ((X.getD (3 + q) tz).k), .string ((X.getD (3 + q) tz).x), .int .i64 ((X.getD (3 + q) tz).n), .int .i64 ((X.getD (3 + q) tz).a)] 69, own 3 1 (.slice na (((nmI X 3 q)).length) nc) (((nmI X 3 q)).length) (((nmI X 3 q)).map (Value.int .i64)), pt b15 #[.int .i64 3, .int .i64 ((n : Int)), .int .i64 0, .slice none 0 0, .slice none 0 0, .slice none 0 0] 25, own 69 4 (.slice (some ⟨g8, 0, none⟩) X.length c6) X.length (tokv X), pt b3 cz0 25, pt b1 cz0 25] _ := hM
                refine D.valF hA rfl (fun _ => R.assign rfl) rfl ?_; clear hA a; intro a hA
                refine D.valF hA rfl (fun _ => R.assign rfl) rfl ?_; clear hA a; intro a hA
                refine D.done ?_
                replace hA : St 303 [(2, _), (3, _), (4, _), (5, _), (6, _), (9, _), (10, _), (12, _), (13, _), (14, _), (15, _), (16, _)] a := hA.sub ((.cons rfl (.cons rfl (.cons rfl (.cons rfl (.cons rfl (.cons rfl (.cons rfl (.cons rfl (.cons rfl (.cons rfl (.cons rfl (.cons rfl .nil)))))))))))))
                refine Ends.retC3 (k := 5) Tryd.func29 Tryd.results29 hA hM rfl rfl rfl rfl sz25 rfl ?_
                have hpb : pbR X = (5, (3 + q)) := pb_b hw0 rfl (bod3u hc0 hcn hw2 hMv.symm ((nuR_badP (f := ff) hall rfl (by rw [(numR_big (m := 2147483647) kq3 kq1 hc24).1]; decide) hqM).trans (by rw [(numR_big (m := 2147483647) kq3 kq1 hc24).1]))) (by decide)
                rw [prs_bad' hse hs0 hpb (by decide)]
                exact ⟨none, 0, none, 0, none, 0, rfl, nilI _, Mem.trans0 hbs hM.nilL⟩
               ·
                have hql : ¬ 2147483647 < (X.getD (3 + q) tz).n := hc24
                obtain ⟨hr0, hrn⟩ := numR_ok kq3 kq1 hql
                have hall2 := nuE_step hall rfl hr0 ff_no
                refine Ends.skip (Ends.seq (Ends.seq (Ends.region ?_)))
                refine S.val hA (R.move rfl) rfl ?_; clear hA a; intro a hA
                refine S.val hA (R.ff (R.eqlStr rfl rfl) (by first | decide | simp | omega)) rfl ?_; clear hA a; intro a hA
                refine S.val hA (R.move rfl) rfl ?_; clear hA a; intro a hA
                refine S.no (dj := 175) hA (by kernel_rfl) rfl rfl rfl ?_; clear hA a; intro a hA
                refine S.no (dj := 175) hA (by kernel_rfl) rfl rfl rfl ?_; clear hA a; intro a hA
                refine S.no (dj := 175) hA (by kernel_rfl) rfl rfl rfl ?_; clear hA a; intro a hA
                refine S.no (dj := 175) hA (by kernel_rfl) rfl rfl rfl ?_; clear hA a; intro a hA
                refine S.no (dj := 175) hA (by kernel_rfl) rfl rfl rfl ?_; clear hA a; intro a hA
                refine S.no (dj := 175) hA (by kernel_rfl) rfl rfl rfl ?_; clear hA a; intro a hA
                refine S.val hA (R.pickF rfl rfl) rfl ?_; clear hA a; intro a hA
                refine S.val hA (R.move rfl) rfl ?_; clear hA a; intro a hA
                refine S.no (dj := 183) hA (by kernel_rfl) rfl rfl rfl ?_; clear hA a; intro a hA
                refine S.no (dj := 183) hA (by kernel_rfl) rfl rfl rfl ?_; clear hA a; intro a hA
                refine S.no (dj := 183) hA (by kernel_rfl) rfl rfl rfl ?_; clear hA a; intro a hA
                refine S.val hA (R.pickF rfl rfl) rfl ?_; clear hA a; intro a hA
                refine S.done ?_
                replace hA : St 303 [(2, _), (5, _), (6, _), (9, _), (10, _), (12, _), (13, _), (14, _), (15, _), (16, _), (187, _)] a := hA.sub ((.cons rfl (.cons rfl (.cons rfl (.cons rfl (.cons rfl (.cons rfl (.cons rfl (.cons rfl (.cons rfl (.cons rfl (.cons rfl .nil))))))))))))
                refine Ends.condF hA rfl ?_
                refine Ends.skip (Ends.seq (Ends.region ?_))
                refine S.val hA (R.move rfl) rfl ?_; clear hA a; intro a hA
                refine S.val hA (R.fieldAddr (q := 2) fi69_2 rfl rfl rfl) rfl ?_; clear hA a; intro a hA
                refine S.val hA (R.load sz3 rfl (hM.cell (k := 0) rfl rfl)) rfl ?_; clear hA a; intro a hA
                refine S.buildSl (cells := #[.int .i64 ((X.getD (3 + q) tz).n)]) hA hM Tryd.underlying22 info3 rfl rfl rfl rfl (by kernel_rfl) rfl ?_; clear hA hM a; intro b25 w26 hb26 hM a hA
                replace hM : Mem _ _ [pt b25 #[.int .i64 ((X.getD (3 + q) tz).n)] 3, pt b20 #[.int .i64 ((X.getD (3 + q) tz).k), .string ((X.getD (3 + q) tz).x), .int .i64 ((X.getD (3 + q) tz).n), .int .i64 ((X.getD (3 + q) tz).a)] 69, own 3 1 (.slice na (((nmI X 3 q)).length) nc) (((nmI X 3 q)).length) (((nmI X 3 q)).map (Value.int .i64)), pt b15 #[.int .i64 3, .int .i64 ((n : Int)), .int .i64 0, .slice none 0 0, .slice none 0 0, .slice none 0 0] 25, own 69 4 (.slice (some ⟨g8, 0, none⟩) X.length c6) X.length (tokv X), pt b3 cz0 25, pt b1 cz0 25] _ := hM
                refine S.append (k := 2) (k2 := 0) hA hM rfl rfl Tryd.underlying22 info3 rfl rfl rfl rfl rfl rfl rfl rfl rfl (by first | (rw [nmI_len]; first | (unfold maxLen; omega) | (show (q + 1) * 8 ≤ 140737488355328; omega)) | (rw [itI_len]; first | (unfold maxLen; omega) | (show (k + 1) * 8 ≤ 140737488355328; omega)) | (rw [hlr]; first | (unfold maxLen; omega) | (show (r + 1) * 24 ≤ 140737488355328; omega))) (by first | (rw [nmI_len]; first | (unfold maxLen; omega) | (show (q + 1) * 8 ≤ 140737488355328; omega)) | (rw [itI_len]; first | (unfold maxLen; omega) | (show (k + 1) * 8 ≤ 140737488355328; omega)) | (rw [hlr]; first | (unfold maxLen; omega) | (show (r + 1) * 24 ≤ 140737488355328; omega))) rfl ?_; clear hA hM a; intro a27 c28 w27 hM a hA
                replace hM : Mem _ _ [pt b25 #[.int .i64 ((X.getD (3 + q) tz).n)] 3, pt b20 #[.int .i64 ((X.getD (3 + q) tz).k), .string ((X.getD (3 + q) tz).x), .int .i64 ((X.getD (3 + q) tz).n), .int .i64 ((X.getD (3 + q) tz).a)] 69, own 3 1 (.slice a27 ((((nmI X 3 q)).length) + 1) c28) ((((nmI X 3 q)).length) + 1) (((nmI X 3 q)).map (Value.int .i64) ++ [.int .i64 ((X.getD (3 + q) tz).n)]), pt b15 #[.int .i64 3, .int .i64 ((n : Int)), .int .i64 0, .slice none 0 0, .slice none 0 0, .slice none 0 0] 25, own 69 4 (.slice (some ⟨g8, 0, none⟩) X.length c6) X.length (tokv X), pt b3 cz0 25, pt b1 cz0 25] _ := hM
                have hl29 : (((nmI X 3 q)).length) + 1 = ((nmI X 3 q) ++ [(X.getD (3 + q) tz).n]).length := by simp
                rw [hl29, show ((nmI X 3 q)).map (Value.int .i64) ++ [.int .i64 ((X.getD (3 + q) tz).n)] = ((nmI X 3 q) ++ [(X.getD (3 + q) tz).n]).map (Value.int .i64) by simp] at hM; rw [hl29] at hA
                clear hl29
                replace hM := hM.drop 0
                replace hM : Mem _ _ [pt b20 #[.int .i64 ((X.getD (3 + q) tz).k), .string ((X.getD (3 + q) tz).x), .int .i64 ((X.getD (3 + q) tz).n), .int .i64 ((X.getD (3 + q) tz).a)] 69, own 3 1 (.slice a27 ((((nmI X 3 q) ++ [(X.getD (3 + q) tz).n])).length) c28) ((((nmI X 3 q) ++ [(X.getD (3 + q) tz).n])).length) ((((nmI X 3 q) ++ [(X.getD (3 + q) tz).n])).map (Value.int .i64)), pt b15 #[.int .i64 3, .int .i64 ((n : Int)), .int .i64 0, .slice none 0 0, .slice none 0 0, .slice none 0 0] 25, own 69 4 (.slice (some ⟨g8, 0, none⟩) X.length c6) X.length (tokv X), pt b3 cz0 25, pt b1 cz0 25] _ := hM
                refine S.val hA (R.assign rfl) rfl ?_; clear hA a; intro a hA
                refine S.done ?_
                replace hA : St 303 [(2, _), (5, _), (6, _), (9, _), (10, _), (12, _), (13, _), (14, _), (15, _)] a := hA.sub ((.cons rfl (.cons rfl (.cons rfl (.cons rfl (.cons rfl (.cons rfl (.cons rfl (.cons rfl (.cons rfl .nil))))))))))
                refine Ends.region ?_
                refine S.val hA (R.move rfl) rfl ?_; clear hA a; intro a hA
                refine S.val hA (R.addI rfl rfl (r := ((3 + (q + 1) : Nat) : Int)) (by first | omega | (rw [nmI_len]; omega) | (simp only [nmI_len]; omega)) (by first | omega | (rw [nmI_len]; omega) | (simp only [nmI_len]; omega))) rfl ?_; clear hA a; intro a hA
                refine S.val hA (R.assign rfl) rfl ?_; clear hA a; intro a hA
                refine S.done ?_
                refine Ends.inBlock (Ends.region ?_)
                refine S.val hA (R.move rfl) rfl ?_; clear hA a; intro a hA
                refine S.val hA (R.subI rfl rfl (r := ((M - (q + 1) : Nat) : Int)) (by first | omega | (rw [nmI_len]; omega) | (simp only [nmI_len]; omega)) (by first | omega | (rw [nmI_len]; omega) | (simp only [nmI_len]; omega))) rfl ?_; clear hA a; intro a hA
                refine S.val hA (R.assign rfl) rfl ?_; clear hA a; intro a hA
                refine S.done ?_
                replace hA : St 303 [(2, _), (5, _), (6, _), (9, _), (10, _), (12, _), (13, _), (14, _), (15, _)] a := hA.sub ((.cons rfl (.cons rfl (.cons rfl (.cons rfl (.cons rfl (.cons rfl (.cons rfl (.cons rfl (.cons rfl .nil))))))))))
                replace hM := hM.front (k := 1) rfl
                replace hM : Mem _ _ [own 3 1 (.slice a27 ((((nmI X 3 q) ++ [(X.getD (3 + q) tz).n])).length) c28) ((((nmI X 3 q) ++ [(X.getD (3 + q) tz).n])).length) ((((nmI X 3 q) ++ [(X.getD (3 + q) tz).n])).map (Value.int .i64)), pt b20 #[.int .i64 ((X.getD (3 + q) tz).k), .string ((X.getD (3 + q) tz).x), .int .i64 ((X.getD (3 + q) tz).n), .int .i64 ((X.getD (3 + q) tz).a)] 69, pt b15 #[.int .i64 3, .int .i64 ((n : Int)), .int .i64 0, .slice none 0 0, .slice none 0 0, .slice none 0 0] 25, own 69 4 (.slice (some ⟨g8, 0, none⟩) X.length c6) X.length (tokv X), pt b3 cz0 25, pt b1 cz0 25] _ := hM
                replace hM := hM.front (k := 5) rfl
                replace hM := hM.front (k := 5) rfl
                replace hM := hM.front (k := 5) rfl
                replace hM := hM.front (k := 5) rfl
                replace hM := hM.front (k := 4) rfl
                replace hM : Mem _ _ [own 3 1 (.slice a27 ((((nmI X 3 q) ++ [(X.getD (3 + q) tz).n])).length) c28) ((((nmI X 3 q) ++ [(X.getD (3 + q) tz).n])).length) ((((nmI X 3 q) ++ [(X.getD (3 + q) tz).n])).map (Value.int .i64)), pt b15 #[.int .i64 3, .int .i64 ((n : Int)), .int .i64 0, .slice none 0 0, .slice none 0 0, .slice none 0 0] 25, own 69 4 (.slice (some ⟨g8, 0, none⟩) X.length c6) X.length (tokv X), pt b3 cz0 25, pt b1 cz0 25, pt b20 #[.int .i64 ((X.getD (3 + q) tz).k), .string ((X.getD (3 + q) tz).x), .int .i64 ((X.getD (3 + q) tz).n), .int .i64 ((X.getD (3 + q) tz).a)] 69] _ := hM
                replace hM := hM.firstN 5
                rw [show ((nmI X 3 q) ++ [(X.getD (3 + q) tz).n]) = nmI X 3 (q + 1) from nmI_snoc X 3 q] at hM hA
                exact hNext ((q + 1, a27, c28)) _ _ ((by show M - (q + 1) < M - q; omega)) ⟨hA.sub ((.cons rfl (.cons rfl (.cons rfl (.cons rfl (.cons rfl (.cons rfl (.cons rfl (.cons rfl (.cons rfl .nil)))))))))), hM, (by omega), hjn, hall2⟩
            ·
             have hqM : q = M := by omega
             subst hqM
             refine Ends.exit rfl ?_
             refine Ends.seq (Ends.seq (Ends.region ?_))
             refine S.val hA (R.move rfl) rfl ?_; clear hA a; intro a hA
             refine S.val hA (R.move rfl) rfl ?_; clear hA a; intro a hA
             refine S.val hA (R.indexAddr (q := (3 + q) * 4) sl65 rfl rfl (by first | omega | (rw [nmI_len]; omega) | (simp only [nmI_len]; omega)) (by first | omega | (rw [nmI_len]; omega) | (simp only [nmI_len]; omega))) rfl ?_; clear hA a; intro a hA
             refine S.val hA (R.fieldAddr (q := (3 + q) * 4 + 0) fi69_0 rfl rfl rfl) rfl ?_; clear hA a; intro a hA
             refine S.val hA (R.load sz3 rfl (hM.tokRow (k := 2) rfl (i := (3 + q)) (by omega) 0 _ rfl)) rfl ?_; clear hA a; intro a hA
             refine S.val hA (R.neq rfl rfl) rfl ?_; clear hA a; intro a hA
             refine S.done ?_
             replace hA : St 303 [(2, _), (5, _), (6, _), (9, _), (10, _), (12, _), (13, _), (14, _), (203, _)] a := hA.sub ((.cons rfl (.cons rfl (.cons rfl (.cons rfl (.cons rfl (.cons rfl (.cons rfl (.cons rfl (.cons rfl .nil))))))))))
             refine Ends.ite hA rfl (fun hc30 => ?_) (fun hc30 => ?_)
             ·
              refine Ends.seq ?_
              refine Ends.drawn (Mem w nof [pt b15 #[.int .i64 3, .int .i64 ((n : Int)), .int .i64 0, .slice none 0 0, .slice none 0 0, .slice none 0 0] 25, own 69 4 (.slice (some ⟨g8, 0, none⟩) X.length c6) X.length (tokv X), pt b3 cz0 25]) (.cons (0, true) (.cons (1, true) (.cons (2, true) (.cons (3, true) (.cons (4, true) (.cons (5, true) (.cons (6, false) (.cons (7, true) (.cons (8, true) .nil))))))))) 9 mixed (by kernel_rfl) (by kernel_rfl) (by kernel_rfl) ((hM.drop 4).drop 0).drew ?_
              replace hM := hM.drew
              refine D.val hA rfl (by kernel_rfl) (fun _ hM => R.loadA sz25 rfl (hM.range (k := 2) rfl) rfl) rfl ?_; clear hA a; intro a hA
              refine D.valF hA rfl (fun _ => R.move rfl) rfl ?_; clear hA a; intro a hA
              refine D.valF hA rfl (fun _ => R.move rfl) rfl ?_; clear hA a; intro a hA
              refine D.valF hA rfl (fun _ => R.indexAddr (q := (3 + q) * 4) sl65 rfl rfl (by first | omega | (rw [nmI_len]; omega) | (simp only [nmI_len]; omega)) (by first | omega | (rw [nmI_len]; omega) | (simp only [nmI_len]; omega))) rfl ?_; clear hA a; intro a hA
              refine D.valF hA rfl (fun _ => R.fieldAddr (q := (3 + q) * 4 + 3) fi69_3 rfl rfl rfl) rfl ?_; clear hA a; intro a hA
              refine D.val hA rfl (by kernel_rfl) (fun _ hM => R.load sz3 rfl (hM.tokRow (k := 1) rfl (i := (3 + q)) (by omega) 3 _ rfl)) rfl ?_; clear hA a; intro a hA
              refine D.storeA (k := 4) hA hM rfl sz25 rfl rfl rfl rfl rfl rfl ?_; clear hM
              intro w28 hM; refine ⟨fun _ _ => ((hM.drop 4).drop 0), ?_⟩
              replace hM : Mem _ _ [own 3 1 (.slice na (((nmI X 3 q)).length) nc) (((nmI X 3 q)).length) (((nmI X 3 q)).map (Value.int .i64)), pt b15 #[.int .i64 3, .int .i64 ((n : Int)), .int .i64 0, .slice none 0 0, .slice none 0 0, .slice none 0 0] 25, own 69 4 (.slice (some ⟨g8, 0, none⟩) X.length c6) X.length (tokv X), pt b3 cz0 25, pt b1 cz0 25] _ := hM
              refine D.valF hA rfl (fun _ => R.assign rfl) rfl ?_; clear hA a; intro a hA
              refine D.valF hA rfl (fun _ => R.assign rfl) rfl ?_; clear hA a; intro a hA
              refine D.done ?_
              replace hA : St 303 [(2, _), (3, _), (4, _), (9, _), (10, _), (12, _), (14, _)] a := hA.sub ((.cons rfl (.cons rfl (.cons rfl (.cons rfl (.cons rfl (.cons rfl (.cons rfl .nil))))))))
              refine Ends.retC3 (k := 4) Tryd.func29 Tryd.results29 hA hM rfl rfl rfl rfl sz25 rfl ?_
              have hpb : pbR X = (7, (3 + q)) := (pb_e hw0 rfl (bod3u hc0 hcn hw2 hMv.symm (nuR_ok hall))).trans (by rw [show endR (X.getD (3 + q) tz) = 7 from if_pos hc30])
              rw [prs_bad' hse hs0 hpb (by decide)]
              exact ⟨none, 0, none, 0, none, 0, rfl, nilI _, Mem.trans0 hbs hM.nilL⟩
             ·
              have hpbE : pbR X = (0, 3 + q) := (pb_e hw0 rfl (bod3u hc0 hcn hw2 hMv.symm (nuR_ok hall))).trans (by rw [show endR (X.getD (3 + q) tz) = 0 from if_neg hc30])
              refine Ends.skip (Ends.seq (Ends.seq (Ends.region ?_)))
              refine S.val hA (R.fieldAddr (q := 0) fi25_0 rfl rfl rfl) rfl ?_; clear hA a; intro a hA
              refine S.val hA (R.load sz3 rfl (hM.cell (k := 1) rfl rfl)) rfl ?_; clear hA a; intro a hA
              refine S.val hA (R.ff (R.eql rfl rfl) (by first | decide | simp | omega)) rfl ?_; clear hA a; intro a hA
              refine S.done ?_
              replace hA : St 303 [(2, _), (9, _), (10, _), (12, _), (14, _), (212, _)] a := hA.sub ((.cons rfl (.cons rfl (.cons rfl (.cons rfl (.cons rfl (.cons rfl .nil)))))))
              refine Ends.condF hA rfl ?_
              refine Ends.skip (Ends.seq (Ends.region ?_))
              refine S.val hA (R.assign rfl) rfl ?_; clear hA a; intro a hA
              refine S.done ?_
              refine Ends.seq (Ends.seq (Ends.region ?_))
              refine S.val hA (R.assign rfl) rfl ?_; clear hA a; intro a hA
              refine S.done ?_
              refine Ends.block ?_
              replace hM := (hM.bundleNil (e := 3)).ownNil 22 1
              replace hM : Mem _ _ [own 22 1 (.slice none (([] : List OwR).length) 0) (([] : List OwR).length) ((([] : List OwR).map orV)), bundle (([] : List OwR).map (orC 3)), own 3 1 (.slice na (((nmI X 3 q)).length) nc) (((nmI X 3 q)).length) (((nmI X 3 q)).map (Value.int .i64)), pt b15 #[.int .i64 3, .int .i64 ((n : Int)), .int .i64 0, .slice none 0 0, .slice none 0 0, .slice none (([] : List OwR).length) 0] 25, own 69 4 (.slice (some ⟨g8, 0, none⟩) X.length c6) X.length (tokv X), pt b3 cz0 25, pt b1 cz0 25] _ := hM
              refine Ends.loop (σ := Nat × List OwR × Option Addr × Nat) (fun (r, rs, ac, cc) (a : Act) (wv : World) => St 303 [(2, .pointer (some ⟨b1, 0, none⟩)), (9, .string (⟨#[85, 80, 80, 69, 82]⟩)), (10, .int .i64 ((n : Int))), (12, .pointer (some ⟨b15, 0, none⟩)), (14, .slice na ((nmI X 3 q).length) nc), (18, .int .i64 ((offH n r : Int))), (19, .int .i64 ((r : Int)))] a ∧ Mem w nof [own 22 1 (.slice ac rs.length cc) rs.length ((rs.map orV)), bundle (rs.map (orC 3)), own 3 1 (.slice na (((nmI X 3 q)).length) nc) (((nmI X 3 q)).length) (((nmI X 3 q)).map (Value.int .i64)), pt b15 #[.int .i64 3, .int .i64 ((n : Int)), .int .i64 0, .slice none 0 0, .slice none 0 0, .slice ac rs.length cc] 25, own 69 4 (.slice (some ⟨g8, 0, none⟩) X.length c6) X.length (tokv X), pt b3 cz0 25, pt b1 cz0 25] wv ∧ (r ≤ n) ∧ (rs.map (·.Y) = matK n (hfI X 3 n) r)) (fun (r, rs, ac, cc) => n - r) ((0, [], none, 0)) ⟨hA.sub ((.cons rfl (.cons rfl (.cons rfl (.cons rfl (.cons rfl (.cons rfl (.cons rfl .nil)))))))), hM, (Nat.zero_le _), rfl⟩ ?_
              clear hA hM a
              rintro ⟨r, rs, ac, cc⟩ a w29 ⟨hA, hM, hr, hYs⟩ hNext2
              refine Ends.seq (Ends.seq (Ends.region ?_))
              refine S.val hA (R.move rfl) rfl ?_; clear hA a; intro a hA
              refine S.val hA (R.move rfl) rfl ?_; clear hA a; intro a hA
              refine S.val hA (R.lss rfl rfl) rfl ?_; clear hA a; intro a hA
              refine S.done ?_
              refine Ends.ite hA rfl (fun hc31 => ?_) (fun hc31 => ?_)
              ·
               have hrn9 : r < n := by omega
               have hlr := matK_len hYs
               refine Ends.skip (Ends.seq (Ends.block (Ends.seq (Ends.region ?_))))
               refine S.val hA (R.move rfl) rfl ?_; clear hA a; intro a hA
               refine S.make hA hM Tryd.underlying22 info3 rfl rfl rfl (by first | omega | (rw [nmI_len]; omega) | (simp only [nmI_len]; omega)) (by show (8 : Int) * _ ≤ _; omega) (by first | omega | (rw [nmI_len]; omega) | (simp only [nmI_len]; omega)) rfl ?_; clear hA hM a; intro b32 w30 hb33 hM a hA
               replace hM : Mem _ _ [pt b32 (madeCells #[.int .i64 0] (n * 1)) 3, own 22 1 (.slice ac rs.length cc) rs.length ((rs.map orV)), bundle (rs.map (orC 3)), own 3 1 (.slice na (((nmI X 3 q)).length) nc) (((nmI X 3 q)).length) (((nmI X 3 q)).map (Value.int .i64)), pt b15 #[.int .i64 3, .int .i64 ((n : Int)), .int .i64 0, .slice none 0 0, .slice none 0 0, .slice ac rs.length cc] 25, own 69 4 (.slice (some ⟨g8, 0, none⟩) X.length c6) X.length (tokv X), pt b3 cz0 25, pt b1 cz0 25] _ := hM
               rw [Nat.mul_one, made_ints] at hM
               replace hM : Mem _ _ [pt b32 ((ints (List.replicate n 0))) 3, own 22 1 (.slice ac rs.length cc) rs.length ((rs.map orV)), bundle (rs.map (orC 3)), own 3 1 (.slice na (((nmI X 3 q)).length) nc) (((nmI X 3 q)).length) (((nmI X 3 q)).map (Value.int .i64)), pt b15 #[.int .i64 3, .int .i64 ((n : Int)), .int .i64 0, .slice none 0 0, .slice none 0 0, .slice ac rs.length cc] 25, own 69 4 (.slice (some ⟨g8, 0, none⟩) X.length c6) X.length (tokv X), pt b3 cz0 25, pt b1 cz0 25] _ := hM
               refine S.val hA (R.assign rfl) rfl ?_; clear hA a; intro a hA
               refine S.done ?_
               replace hA : St 303 [(2, _), (9, _), (10, _), (12, _), (14, _), (18, _), (19, _), (20, _)] a := hA.sub ((.cons rfl (.cons rfl (.cons rfl (.cons rfl (.cons rfl (.cons rfl (.cons rfl (.cons rfl .nil)))))))))
               refine Ends.seq (Ends.seq (Ends.region ?_))
               refine S.val hA (R.assign rfl) rfl ?_; clear hA a; intro a hA
               refine S.done ?_
               refine Ends.block ?_
               replace hM := hM.ptOwn (n := n) ((by simp)) (by omega)
               replace hM : Mem _ _ [own 3 1 (.slice ((some ⟨b32, 0, none⟩)) (((List.replicate n (0 : Int))).length) n) (((List.replicate n (0 : Int))).length) (((List.replicate n (0 : Int))).map (Value.int .i64)), own 22 1 (.slice ac rs.length cc) rs.length ((rs.map orV)), bundle (rs.map (orC 3)), own 3 1 (.slice na (((nmI X 3 q)).length) nc) (((nmI X 3 q)).length) (((nmI X 3 q)).map (Value.int .i64)), pt b15 #[.int .i64 3, .int .i64 ((n : Int)), .int .i64 0, .slice none 0 0, .slice none 0 0, .slice ac rs.length cc] 25, own 69 4 (.slice (some ⟨g8, 0, none⟩) X.length c6) X.length (tokv X), pt b3 cz0 25, pt b1 cz0 25] _ := hM
               rw [List.length_replicate] at hM
               replace hM : Mem _ _ [own 3 1 (.slice ((some ⟨b32, 0, none⟩)) n n) n (((List.replicate n (0 : Int))).map (Value.int .i64)), own 22 1 (.slice ac rs.length cc) rs.length ((rs.map orV)), bundle (rs.map (orC 3)), own 3 1 (.slice na (((nmI X 3 q)).length) nc) (((nmI X 3 q)).length) (((nmI X 3 q)).map (Value.int .i64)), pt b15 #[.int .i64 3, .int .i64 ((n : Int)), .int .i64 0, .slice none 0 0, .slice none 0 0, .slice ac rs.length cc] 25, own 69 4 (.slice (some ⟨g8, 0, none⟩) X.length c6) X.length (tokv X), pt b3 cz0 25, pt b1 cz0 25] _ := hM
               rw [show (offH n r : Int) = ((offH n r + (0 - (r + 1)) : Nat) : Int) by omega] at hA
               refine Ends.loop (σ := Nat × List Int) (fun (c_, Y) (a : Act) (wv : World) => St 303 [(2, .pointer (some ⟨b1, 0, none⟩)), (9, .string (⟨#[85, 80, 80, 69, 82]⟩)), (10, .int .i64 ((n : Int))), (12, .pointer (some ⟨b15, 0, none⟩)), (14, .slice na ((nmI X 3 q).length) nc), (18, .int .i64 (((offH n r + (c_ - (r + 1)) : Nat) : Int))), (19, .int .i64 ((r : Int))), (20, .slice ((some ⟨b32, 0, none⟩)) n n), (21, .int .i64 ((c_ : Int)))] a ∧ Mem w nof [own 3 1 (.slice ((some ⟨b32, 0, none⟩)) n n) n (Y.map (Value.int .i64)), own 22 1 (.slice ac rs.length cc) rs.length ((rs.map orV)), bundle (rs.map (orC 3)), own 3 1 (.slice na (((nmI X 3 q)).length) nc) (((nmI X 3 q)).length) (((nmI X 3 q)).map (Value.int .i64)), pt b15 #[.int .i64 3, .int .i64 ((n : Int)), .int .i64 0, .slice none 0 0, .slice none 0 0, .slice ac rs.length cc] 25, own 69 4 (.slice (some ⟨g8, 0, none⟩) X.length c6) X.length (tokv X), pt b3 cz0 25, pt b1 cz0 25] wv ∧ (c_ ≤ n) ∧ (Y = (List.range n).map fun q => if q < c_ then (hfI X 3 n) r q else 0) ∧ (Y.length = n)) (fun (c_, Y) => n - c_) ((0, List.replicate n 0)) ⟨hA.sub ((.cons rfl (.cons rfl (.cons rfl (.cons rfl (.cons rfl (.cons rfl (.cons rfl (.cons rfl (.cons rfl .nil)))))))))), hM, (Nat.zero_le _), row_zero, List.length_replicate⟩ ?_
               clear hA hM a
               rintro ⟨c_, Y⟩ a w31 ⟨hA, hM, hc, hYc, hYl⟩ hNext3
               refine Ends.seq (Ends.seq (Ends.region ?_))
               refine S.val hA (R.move rfl) rfl ?_; clear hA a; intro a hA
               refine S.val hA (R.move rfl) rfl ?_; clear hA a; intro a hA
               refine S.val hA (R.lss rfl rfl) rfl ?_; clear hA a; intro a hA
               refine S.done ?_
               refine Ends.ite hA rfl (fun hc34 => ?_) (fun hc34 => ?_)
               ·
                have hcn9 : c_ < n := by omega
                refine Ends.skip (Ends.seq (Ends.block (Ends.seq (Ends.region ?_))))
                refine S.val hA (R.move rfl) rfl ?_; clear hA a; intro a hA
                refine S.val hA (R.ff (R.neqStr rfl rfl) (by first | decide | simp | omega)) rfl ?_; clear hA a; intro a hA
                refine S.done ?_
                replace hA : St 303 [(2, _), (9, _), (10, _), (12, _), (14, _), (18, _), (19, _), (20, _), (21, _), (258, _)] a := hA.sub ((.cons rfl (.cons rfl (.cons rfl (.cons rfl (.cons rfl (.cons rfl (.cons rfl (.cons rfl (.cons rfl (.cons rfl .nil)))))))))))
                refine Ends.condF hA rfl ?_
                refine Ends.seq (Ends.region ?_)
                refine S.val hA (R.move rfl) rfl ?_; clear hA a; intro a hA
                refine S.val hA (R.move rfl) rfl ?_; clear hA a; intro a hA
                refine S.val hA (R.lss rfl rfl) rfl ?_; clear hA a; intro a hA
                refine S.done ?_
                refine Ends.ite hA rfl (fun hc35 => ?_) (fun hc35 => ?_)
                ·
                 have hcr : c_ < r := by omega
                 have hrwl := matK_rowlen hYs hcr
                 refine Ends.region ?_
                 refine S.val hA (R.move rfl) rfl ?_; clear hA a; intro a hA
                 refine S.val hA (R.move rfl) rfl ?_; clear hA a; intro a hA
                 refine S.val hA (R.fieldAddr (q := 5) fi25_5 rfl rfl rfl) rfl ?_; clear hA a; intro a hA
                 refine S.val hA (R.load sz23 rfl (hM.cell (k := 4) rfl rfl)) rfl ?_; clear hA a; intro a hA
                 refine S.val hA (R.move rfl) rfl ?_; clear hA a; intro a hA
                 refine S.val hA (R.idxRn (hM.rowsV (k := 1) rfl (k2 := 2) rfl) (j := c_) sl23 rfl rfl (by first | omega | (rw [nmI_len]; omega) | (simp only [nmI_len]; omega)) (rfl)) rfl ?_; clear hA a; intro a hA
                 obtain ⟨ra36, rc37, hrow38, hld39⟩ := (hM.rowsV_ (k := 1) rfl (k2 := 2) rfl).atP (i := c_) (by rw [List.length_map]; omega)
                 refine S.val hA (hld39 _ _ _ _ _ _ (Mem.start _) sz22 rfl) rfl ?_; clear hA a; intro a hA
                 refine S.val hA (R.move rfl) rfl ?_; clear hA a; intro a hA
                 refine S.val hA (R.idxI hrow38 (j := r) sl22 rfl rfl (by first | omega | (rw [nmI_len]; omega) | (simp only [nmI_len]; omega)) (rfl)) rfl ?_; clear hA a; intro a hA
                 refine S.val hA (R.loadI (hrow38) sz3 rfl (by first | omega | (rw [nmI_len]; omega) | (simp only [nmI_len]; omega))) rfl ?_; clear hA a; intro a hA
                 refine S.val hA (R.indexAddr (q := c_) sl22 rfl rfl (by first | omega | (rw [nmI_len]; omega) | (simp only [nmI_len]; omega)) (by first | omega | (rw [nmI_len]; omega) | (simp only [nmI_len]; omega))) rfl ?_; clear hA a; intro a hA
                 refine S.storeO (k := 0) hA hM sz3 rfl rfl rfl rfl (mapi_get Y c_ (by first | omega | (simp only [List.length_set]; omega) | (simp; done))) ?_; clear hM; intro w32 hM; rw [mapi_set] at hM
                 replace hM : Mem _ _ [own 3 1 (.slice ((some ⟨b32, 0, none⟩)) n n) n (((Y.set c_ (((((rs.map (·.Y))).getD c_ [])).getD r 0))).map (Value.int .i64)), own 22 1 (.slice ac rs.length cc) rs.length ((rs.map orV)), bundle (rs.map (orC 3)), own 3 1 (.slice na (((nmI X 3 q)).length) nc) (((nmI X 3 q)).length) (((nmI X 3 q)).map (Value.int .i64)), pt b15 #[.int .i64 3, .int .i64 ((n : Int)), .int .i64 0, .slice none 0 0, .slice none 0 0, .slice ac rs.length cc] 25, own 69 4 (.slice (some ⟨g8, 0, none⟩) X.length c6) X.length (tokv X), pt b3 cz0 25, pt b1 cz0 25] _ := hM
                 refine S.done ?_
                 replace hA : St 303 [(2, _), (9, _), (10, _), (12, _), (14, _), (18, _), (19, _), (20, _), (21, _)] a := hA.sub ((.cons rfl (.cons rfl (.cons rfl (.cons rfl (.cons rfl (.cons rfl (.cons rfl (.cons rfl (.cons rfl .nil))))))))))
                 refine Ends.inBlock (Ends.region ?_)
                 refine S.val hA (R.move rfl) rfl ?_; clear hA a; intro a hA
                 refine S.val hA (R.addI rfl rfl (r := ((c_ : Int)) + 1) rfl (by first | omega | (rw [nmI_len]; omega) | (simp only [nmI_len]; omega))) rfl ?_; clear hA a; intro a hA
                 refine S.val hA (R.assign rfl) rfl ?_; clear hA a; intro a hA
                 refine S.done ?_
                 replace hM := hM.front (k := 7) rfl
                 replace hM := hM.front (k := 7) rfl
                 replace hM := hM.front (k := 7) rfl
                 replace hM := hM.front (k := 7) rfl
                 replace hM := hM.front (k := 7) rfl
                 replace hM := hM.front (k := 7) rfl
                 replace hM := hM.front (k := 7) rfl
                 replace hM := hM.front (k := 7) rfl
                 replace hM : Mem _ _ [own 3 1 (.slice ((some ⟨b32, 0, none⟩)) n n) n (((Y.set c_ (((((rs.map (·.Y))).getD c_ [])).getD r 0))).map (Value.int .i64)), own 22 1 (.slice ac rs.length cc) rs.length ((rs.map orV)), bundle (rs.map (orC 3)), own 3 1 (.slice na (((nmI X 3 q)).length) nc) (((nmI X 3 q)).length) (((nmI X 3 q)).map (Value.int .i64)), pt b15 #[.int .i64 3, .int .i64 ((n : Int)), .int .i64 0, .slice none 0 0, .slice none 0 0, .slice ac rs.length cc] 25, own 69 4 (.slice (some ⟨g8, 0, none⟩) X.length c6) X.length (tokv X), pt b3 cz0 25, pt b1 cz0 25] _ := hM
                 rw [show offH n r + (c_ - (r + 1)) = offH n r + (c_ + 1 - (r + 1)) by omega] at hA
                 exact hNext3 ((c_ + 1, (Y.set c_ (((((rs.map (·.Y))).getD c_ [])).getD r 0)))) _ _ ((by show n - (c_ + 1) < n - c_; omega)) ⟨hA.sub ((.cons rfl (.cons rfl (.cons rfl (.cons rfl (.cons rfl (.cons rfl (.cons rfl (.cons rfl (.cons rfl .nil)))))))))), hM, (by omega), (row_step hYc ((matK_at hYs hcr hrn9).trans (hfI_sym X 3 n c_ r))), (by first | exact hYl | (rw [List.length_set]; exact hYl))⟩
                ·
                 refine Ends.seq (Ends.region ?_)
                 refine S.val hA (R.move rfl) rfl ?_; clear hA a; intro a hA
                 refine S.val hA (R.move rfl) rfl ?_; clear hA a; intro a hA
                 refine S.val hA (R.gtr rfl rfl) rfl ?_; clear hA a; intro a hA
                 refine S.done ?_
                 replace hA : St 303 [(2, _), (9, _), (10, _), (12, _), (14, _), (18, _), (19, _), (20, _), (21, _), (286, _)] a := hA.sub ((.cons rfl (.cons rfl (.cons rfl (.cons rfl (.cons rfl (.cons rfl (.cons rfl (.cons rfl (.cons rfl (.cons rfl .nil)))))))))))
                 refine Ends.ite hA rfl (fun hc40 => ?_) (fun hc40 => ?_)
                 ·
                  have hrc : r < c_ := by omega
                  have hix := hfI_ix hrc hcn9
                  refine Ends.seq (Ends.region ?_)
                  refine S.val hA (R.move rfl) rfl ?_; clear hA a; intro a hA
                  refine S.val hA (R.move rfl) rfl ?_; clear hA a; intro a hA
                  refine S.val hA (R.move rfl) rfl ?_; clear hA a; intro a hA
                  refine S.val hA (R.move rfl) rfl ?_; clear hA a; intro a hA
                  refine S.val hA (R.idxI (hM.rsl (k := 3) rfl) (j := (((offH n r + (c_ - (r + 1)) : Nat) : Int)).toNat) sl22 rfl rfl (by first | omega | (rw [nmI_len]; omega) | (simp only [nmI_len]; omega)) (rfl)) rfl ?_; clear hA a; intro a hA
                  refine S.val hA (R.loadI (hM.rsl (k := 3) rfl) sz3 rfl (by first | omega | (rw [nmI_len]; omega) | (simp only [nmI_len]; omega))) rfl ?_; clear hA a; intro a hA
                  refine S.val hA (R.indexAddr (q := c_) sl22 rfl rfl (by first | omega | (rw [nmI_len]; omega) | (simp only [nmI_len]; omega)) (by first | omega | (rw [nmI_len]; omega) | (simp only [nmI_len]; omega))) rfl ?_; clear hA a; intro a hA
                  refine S.storeO (k := 0) hA hM sz3 rfl rfl rfl rfl (mapi_get Y c_ (by first | omega | (simp only [List.length_set]; omega) | (simp; done))) ?_; clear hM; intro w33 hM; rw [mapi_set] at hM
                  replace hM : Mem _ _ [own 3 1 (.slice ((some ⟨b32, 0, none⟩)) n n) n (((Y.set c_ (((nmI X 3 q)).getD ((((offH n r + (c_ - (r + 1)) : Nat) : Int)).toNat) 0))).map (Value.int .i64)), own 22 1 (.slice ac rs.length cc) rs.length ((rs.map orV)), bundle (rs.map (orC 3)), own 3 1 (.slice na (((nmI X 3 q)).length) nc) (((nmI X 3 q)).length) (((nmI X 3 q)).map (Value.int .i64)), pt b15 #[.int .i64 3, .int .i64 ((n : Int)), .int .i64 0, .slice none 0 0, .slice none 0 0, .slice ac rs.length cc] 25, own 69 4 (.slice (some ⟨g8, 0, none⟩) X.length c6) X.length (tokv X), pt b3 cz0 25, pt b1 cz0 25] _ := hM
                  refine S.done ?_
                  replace hA : St 303 [(2, _), (9, _), (10, _), (12, _), (14, _), (18, _), (19, _), (20, _), (21, _)] a := hA.sub ((.cons rfl (.cons rfl (.cons rfl (.cons rfl (.cons rfl (.cons rfl (.cons rfl (.cons rfl (.cons rfl .nil))))))))))
                  refine Ends.region ?_
                  refine S.val hA (R.move rfl) rfl ?_; clear hA a; intro a hA
                  refine S.val hA (R.addI rfl rfl (r := ((offH n r + (c_ - (r + 1)) + 1 : Nat) : Int)) (by first | omega | (rw [nmI_len]; omega) | (simp only [nmI_len]; omega)) (by first | omega | (rw [nmI_len]; omega) | (simp only [nmI_len]; omega))) rfl ?_; clear hA a; intro a hA
                  refine S.val hA (R.assign rfl) rfl ?_; clear hA a; intro a hA
                  refine S.done ?_
                  refine Ends.inBlock (Ends.region ?_)
                  refine S.val hA (R.move rfl) rfl ?_; clear hA a; intro a hA
                  refine S.val hA (R.addI rfl rfl (r := ((c_ : Int)) + 1) rfl (by first | omega | (rw [nmI_len]; omega) | (simp only [nmI_len]; omega))) rfl ?_; clear hA a; intro a hA
                  refine S.val hA (R.assign rfl) rfl ?_; clear hA a; intro a hA
                  refine S.done ?_
                  replace hA : St 303 [(2, _), (9, _), (10, _), (12, _), (14, _), (18, _), (19, _), (20, _), (21, _)] a := hA.sub ((.cons rfl (.cons rfl (.cons rfl (.cons rfl (.cons rfl (.cons rfl (.cons rfl (.cons rfl (.cons rfl .nil))))))))))
                  replace hM := hM.front (k := 7) rfl
                  replace hM := hM.front (k := 7) rfl
                  replace hM := hM.front (k := 7) rfl
                  replace hM := hM.front (k := 7) rfl
                  replace hM := hM.front (k := 7) rfl
                  replace hM := hM.front (k := 7) rfl
                  replace hM := hM.front (k := 7) rfl
                  replace hM := hM.front (k := 7) rfl
                  replace hM : Mem _ _ [own 3 1 (.slice ((some ⟨b32, 0, none⟩)) n n) n (((Y.set c_ (((nmI X 3 q)).getD ((((offH n r + (c_ - (r + 1)) : Nat) : Int)).toNat) 0))).map (Value.int .i64)), own 22 1 (.slice ac rs.length cc) rs.length ((rs.map orV)), bundle (rs.map (orC 3)), own 3 1 (.slice na (((nmI X 3 q)).length) nc) (((nmI X 3 q)).length) (((nmI X 3 q)).map (Value.int .i64)), pt b15 #[.int .i64 3, .int .i64 ((n : Int)), .int .i64 0, .slice none 0 0, .slice none 0 0, .slice ac rs.length cc] 25, own 69 4 (.slice (some ⟨g8, 0, none⟩) X.length c6) X.length (tokv X), pt b3 cz0 25, pt b1 cz0 25] _ := hM
                  rw [show offH n r + (c_ - (r + 1)) + 1 = offH n r + (c_ + 1 - (r + 1)) by omega] at hA
                  exact hNext3 ((c_ + 1, (Y.set c_ (((nmI X 3 q)).getD ((((offH n r + (c_ - (r + 1)) : Nat) : Int)).toNat) 0)))) _ _ ((by show n - (c_ + 1) < n - c_; omega)) ⟨hA.sub ((.cons rfl (.cons rfl (.cons rfl (.cons rfl (.cons rfl (.cons rfl (.cons rfl (.cons rfl (.cons rfl .nil)))))))))), hM, (by omega), (row_step hYc ((nmI_at (by omega)).trans (hfI_up hrc hcn9).symm)), (by first | exact hYl | (rw [List.length_set]; exact hYl))⟩
                 ·
                  have hrc : c_ = r := by omega
                  refine Ends.skip (Ends.inBlock (Ends.region ?_))
                  refine S.val hA (R.move rfl) rfl ?_; clear hA a; intro a hA
                  refine S.val hA (R.addI rfl rfl (r := ((c_ : Int)) + 1) rfl (by first | omega | (rw [nmI_len]; omega) | (simp only [nmI_len]; omega))) rfl ?_; clear hA a; intro a hA
                  refine S.val hA (R.assign rfl) rfl ?_; clear hA a; intro a hA
                  refine S.done ?_
                  replace hM := hM.front (k := 7) rfl
                  replace hM := hM.front (k := 7) rfl
                  replace hM := hM.front (k := 7) rfl
                  replace hM := hM.front (k := 7) rfl
                  replace hM := hM.front (k := 7) rfl
                  replace hM := hM.front (k := 7) rfl
                  replace hM := hM.front (k := 7) rfl
                  replace hM := hM.front (k := 7) rfl
                  replace hM : Mem _ _ [own 3 1 (.slice ((some ⟨b32, 0, none⟩)) n n) n (Y.map (Value.int .i64)), own 22 1 (.slice ac rs.length cc) rs.length ((rs.map orV)), bundle (rs.map (orC 3)), own 3 1 (.slice na (((nmI X 3 q)).length) nc) (((nmI X 3 q)).length) (((nmI X 3 q)).map (Value.int .i64)), pt b15 #[.int .i64 3, .int .i64 ((n : Int)), .int .i64 0, .slice none 0 0, .slice none 0 0, .slice ac rs.length cc] 25, own 69 4 (.slice (some ⟨g8, 0, none⟩) X.length c6) X.length (tokv X), pt b3 cz0 25, pt b1 cz0 25] _ := hM
                  rw [show offH n r + (c_ - (r + 1)) = offH n r + (c_ + 1 - (r + 1)) by omega] at hA
                  exact hNext3 ((c_ + 1, Y)) _ _ ((by show n - (c_ + 1) < n - c_; omega)) ⟨hA.sub ((.cons rfl (.cons rfl (.cons rfl (.cons rfl (.cons rfl (.cons rfl (.cons rfl (.cons rfl (.cons rfl .nil)))))))))), hM, (by omega), (row_stay hYc (by rw [hrc]; exact hfI_diag _ _ _ _)), (by first | exact hYl | (rw [List.length_set]; exact hYl))⟩
               ·
                refine Ends.exit rfl ?_
                replace hA : St 303 [(2, _), (9, _), (10, _), (12, _), (14, _), (18, _), (19, _), (20, _)] a := hA.sub ((.cons rfl (.cons rfl (.cons rfl (.cons rfl (.cons rfl (.cons rfl (.cons rfl (.cons rfl .nil)))))))))
                replace hM : Mem _ _ [own 3 1 (.slice ((some ⟨b32, 0, none⟩)) n n) n (Y.map (Value.int .i64)), own 22 1 (.slice ac rs.length cc) rs.length ((rs.map orV)), bundle (rs.map (orC 3)), own 3 1 (.slice na (((nmI X 3 q)).length) nc) (((nmI X 3 q)).length) (((nmI X 3 q)).map (Value.int .i64)), pt b15 #[.int .i64 3, .int .i64 ((n : Int)), .int .i64 0, .slice none 0 0, .slice none 0 0, .slice ac rs.length cc] 25, own 69 4 (.slice (some ⟨g8, 0, none⟩) X.length c6) X.length (tokv X), pt b3 cz0 25, pt b1 cz0 25] _ := hM
                have hMr := hM.eqL (L2 := [own 3 1 (.slice ((some ⟨b32, 0, none⟩)) Y.length n) Y.length (Y.map (Value.int .i64)), own 22 1 (.slice ac rs.length cc) rs.length ((rs.map orV)), bundle (rs.map (orC 3)), own 3 1 (.slice na (((nmI X 3 q)).length) nc) (((nmI X 3 q)).length) (((nmI X 3 q)).map (Value.int .i64)), pt b15 #[.int .i64 3, .int .i64 ((n : Int)), .int .i64 0, .slice none 0 0, .slice none 0 0, .slice ac rs.length cc] 25, own 69 4 (.slice (some ⟨g8, 0, none⟩) X.length c6) X.length (tokv X), pt b3 cz0 25, pt b1 cz0 25]) (by rw [hYl])
                replace hM := hMr
                rw [show (Value.slice ((some ⟨b32, 0, none⟩)) n n) = Value.slice ((some ⟨b32, 0, none⟩)) Y.length n by rw [hYl]] at hA
                refine Ends.region ?_
                refine S.val hA (R.fieldAddr (q := 5) fi25_5 rfl rfl rfl) rfl ?_; clear hA a; intro a hA
                refine S.val hA (R.load sz23 rfl (hM.cell (k := 4) rfl rfl)) rfl ?_; clear hA a; intro a hA
                refine S.val hA (R.move rfl) rfl ?_; clear hA a; intro a hA
                refine S.buildSl (cells := #[.slice ((some ⟨b32, 0, none⟩)) Y.length n]) hA hM Tryd.underlying23 info22 rfl rfl rfl rfl (by kernel_rfl) rfl ?_; clear hA hM a; intro b41 w34 hb42 hM a hA
                replace hM : Mem _ _ [pt b41 #[.slice ((some ⟨b32, 0, none⟩)) Y.length n] 22, own 3 1 (.slice ((some ⟨b32, 0, none⟩)) Y.length n) Y.length (Y.map (Value.int .i64)), own 22 1 (.slice ac rs.length cc) rs.length ((rs.map orV)), bundle (rs.map (orC 3)), own 3 1 (.slice na (((nmI X 3 q)).length) nc) (((nmI X 3 q)).length) (((nmI X 3 q)).map (Value.int .i64)), pt b15 #[.int .i64 3, .int .i64 ((n : Int)), .int .i64 0, .slice none 0 0, .slice none 0 0, .slice ac rs.length cc] 25, own 69 4 (.slice (some ⟨g8, 0, none⟩) X.length c6) X.length (tokv X), pt b3 cz0 25, pt b1 cz0 25] _ := hM
                refine S.append (k := 2) (k2 := 0) hA hM rfl rfl Tryd.underlying23 info22 rfl rfl rfl rfl rfl rfl rfl rfl rfl (by first | (rw [nmI_len]; first | (unfold maxLen; omega) | (show (q + 1) * 8 ≤ 140737488355328; omega)) | (rw [itI_len]; first | (unfold maxLen; omega) | (show (k + 1) * 8 ≤ 140737488355328; omega)) | (rw [hlr]; first | (unfold maxLen; omega) | (show (r + 1) * 24 ≤ 140737488355328; omega))) (by first | (rw [nmI_len]; first | (unfold maxLen; omega) | (show (q + 1) * 8 ≤ 140737488355328; omega)) | (rw [itI_len]; first | (unfold maxLen; omega) | (show (k + 1) * 8 ≤ 140737488355328; omega)) | (rw [hlr]; first | (unfold maxLen; omega) | (show (r + 1) * 24 ≤ 140737488355328; omega))) rfl ?_; clear hA hM a; intro a43 c44 w35 hM a hA
                replace hM : Mem _ _ [pt b41 #[.slice ((some ⟨b32, 0, none⟩)) Y.length n] 22, own 3 1 (.slice ((some ⟨b32, 0, none⟩)) Y.length n) Y.length (Y.map (Value.int .i64)), own 22 1 (.slice a43 (rs.length + 1) c44) (rs.length + 1) (((rs.map orV) ++ [.slice ((some ⟨b32, 0, none⟩)) Y.length n])), bundle (rs.map (orC 3)), own 3 1 (.slice na (((nmI X 3 q)).length) nc) (((nmI X 3 q)).length) (((nmI X 3 q)).map (Value.int .i64)), pt b15 #[.int .i64 3, .int .i64 ((n : Int)), .int .i64 0, .slice none 0 0, .slice none 0 0, .slice ac rs.length cc] 25, own 69 4 (.slice (some ⟨g8, 0, none⟩) X.length c6) X.length (tokv X), pt b3 cz0 25, pt b1 cz0 25] _ := hM
                replace hM := hM.drop 0
                replace hM : Mem _ _ [own 3 1 (.slice ((some ⟨b32, 0, none⟩)) Y.length n) Y.length (Y.map (Value.int .i64)), own 22 1 (.slice a43 (rs.length + 1) c44) (rs.length + 1) (((rs.map orV) ++ [.slice ((some ⟨b32, 0, none⟩)) Y.length n])), bundle (rs.map (orC 3)), own 3 1 (.slice na (((nmI X 3 q)).length) nc) (((nmI X 3 q)).length) (((nmI X 3 q)).map (Value.int .i64)), pt b15 #[.int .i64 3, .int .i64 ((n : Int)), .int .i64 0, .slice none 0 0, .slice none 0 0, .slice ac rs.length cc] 25, own 69 4 (.slice (some ⟨g8, 0, none⟩) X.length c6) X.length (tokv X), pt b3 cz0 25, pt b1 cz0 25] _ := hM
                refine S.val hA (R.fieldAddr (q := 5) fi25_5 rfl rfl rfl) rfl ?_; clear hA a; intro a hA
                refine S.store (k := 4) hA hM sz23 rfl rfl rfl rfl rfl ?_; clear hM
                intro w36 hM
                replace hM : Mem _ _ [own 3 1 (.slice ((some ⟨b32, 0, none⟩)) Y.length n) Y.length (Y.map (Value.int .i64)), own 22 1 (.slice a43 (rs.length + 1) c44) (rs.length + 1) (((rs.map orV) ++ [.slice ((some ⟨b32, 0, none⟩)) Y.length n])), bundle (rs.map (orC 3)), own 3 1 (.slice na (((nmI X 3 q)).length) nc) (((nmI X 3 q)).length) (((nmI X 3 q)).map (Value.int .i64)), pt b15 #[.int .i64 3, .int .i64 ((n : Int)), .int .i64 0, .slice none 0 0, .slice none 0 0, .slice a43 (rs.length + 1) c44] 25, own 69 4 (.slice (some ⟨g8, 0, none⟩) X.length c6) X.length (tokv X), pt b3 cz0 25, pt b1 cz0 25] _ := hM
                refine S.done ?_
                replace hA : St 303 [(2, _), (9, _), (10, _), (12, _), (14, _), (18, _), (19, _)] a := hA.sub ((.cons rfl (.cons rfl (.cons rfl (.cons rfl (.cons rfl (.cons rfl (.cons rfl .nil))))))))
                refine Ends.inBlock (Ends.region ?_)
                refine S.val hA (R.move rfl) rfl ?_; clear hA a; intro a hA
                refine S.val hA (R.addI rfl rfl (r := ((r : Int)) + 1) rfl (by first | omega | (rw [nmI_len]; omega) | (simp only [nmI_len]; omega))) rfl ?_; clear hA a; intro a hA
                refine S.val hA (R.assign rfl) rfl ?_; clear hA a; intro a hA
                refine S.done ?_
                replace hM := hM.front (k := 2) rfl
                replace hM := hM.front (k := 1) rfl
                replace hM := Mem.orCS (rs := rs) hM
                rw [show (Value.slice ((some ⟨b32, 0, none⟩)) Y.length n) = orV (⟨Y, (some ⟨b32, 0, none⟩), n⟩ : OwR) from rfl, orV_snoc', len_snoc' rs (⟨Y, (some ⟨b32, 0, none⟩), n⟩ : OwR)] at hM
                replace hM := hM.front (k := 6) rfl
                replace hM := hM.front (k := 6) rfl
                replace hM := hM.front (k := 6) rfl
                replace hM := hM.front (k := 6) rfl
                replace hM := hM.front (k := 6) rfl
                replace hM := hM.front (k := 5) rfl
                replace hM := hM.front (k := 6) rfl
                have hcn8 : c_ = n := by omega
                rw [hcn8] at hYc
                rw [hcn8, offH_succ] at hA
                exact hNext2 ((r + 1, rs ++ [(⟨Y, (some ⟨b32, 0, none⟩), n⟩ : OwR)], a43, c44)) _ _ ((by show n - (r + 1) < n - r; omega)) ⟨hA.sub ((.cons rfl (.cons rfl (.cons rfl (.cons rfl (.cons rfl (.cons rfl (.cons rfl .nil)))))))), hM, (by omega), (matK_snoc hYs (row_done hYc))⟩
              ·
               refine Ends.exit rfl ?_
               replace hA : St 303 [(2, _), (12, _)] a := hA.sub ((.cons rfl (.cons rfl .nil)))
               refine Ends.seq (Ends.region ?_)
               refine S.val hA (R.loadA sz25 rfl (hM.range (k := 3) rfl) rfl) rfl ?_; clear hA a; intro a hA
               refine S.storeA (k := 6) hA hM sz25 rfl rfl rfl rfl rfl rfl ?_; clear hM
               intro w37 hM
               replace hM : Mem _ _ [own 22 1 (.slice ac rs.length cc) rs.length ((rs.map orV)), bundle (rs.map (orC 3)), own 3 1 (.slice na (((nmI X 3 q)).length) nc) (((nmI X 3 q)).length) (((nmI X 3 q)).map (Value.int .i64)), pt b15 #[.int .i64 3, .int .i64 ((n : Int)), .int .i64 0, .slice none 0 0, .slice none 0 0, .slice ac rs.length cc] 25, own 69 4 (.slice (some ⟨g8, 0, none⟩) X.length c6) X.length (tokv X), pt b3 cz0 25, pt b1 #[.int .i64 3, .int .i64 ((n : Int)), .int .i64 0, .slice none 0 0, .slice none 0 0, .slice ac rs.length cc] 25] _ := hM
               refine S.val hA (R.assign rfl) rfl ?_; clear hA a; intro a hA
               refine S.val hA (R.assign rfl) rfl ?_; clear hA a; intro a hA
               refine S.done ?_
               refine Ends.retC3 (k := 6) Tryd.func29 Tryd.results29 hA hM rfl rfl rfl rfl sz25 rfl ?_
               have hrn9 : r = n := by omega
               subst hrn9
               have g5 := hM.rowsV_ (k := 0) rfl (k2 := 1) rfl
               rw [prs_ok' hse hs0 hpbE (pb_half hw0 hw2 hcn hYs)]
               exact ⟨none, 0, none, 0, ac, cc, by simp only [List.length_map, List.length_nil], ⟨IntSl.nil _, IntSl.nil _, g5⟩, Mem.trans0 hbs hM.nilL⟩
          ·
           refine Ends.region ?_
           refine S.val hA (R.move rfl) rfl ?_; clear hA a; intro a hA
           refine S.val hA (R.neqStr rfl rfl) rfl ?_; clear hA a; intro a hA
           refine S.val hA (R.move rfl) rfl ?_; clear hA a; intro a hA
           refine hA.split (d := 135) rfl ?_ ?_
           ·
            clear hA; intro hg45 hA
            refine S.valg (dj := 135) hA (by kernel_rfl) rfl (R.move rfl) rfl ?_; clear hA a; intro a hA
            refine S.valg (dj := 135) hA (by kernel_rfl) rfl (R.neqStr rfl rfl) rfl ?_; clear hA a; intro a hA
            refine S.val hA (R.pickT rfl rfl) rfl ?_; clear hA a; intro a hA
            refine S.done ?_
            replace hA : St 303 [(2, _), (5, _), (6, _), (9, _), (10, _), (12, _), (138, _)] a := hA.sub ((.cons rfl (.cons rfl (.cons rfl (.cons rfl (.cons rfl (.cons rfl (.cons rfl .nil))))))))
            exact hJ _ _ ⟨hA.sub (.cons rfl (.cons rfl (.cons rfl (.cons rfl (.cons rfl (.cons rfl (.cons (by first | rfl | exact congrArg (fun b => some (Value.bool b)) (by first | exact decide_eq_decide.2 (by omega) | exact or_bool (by omega) | exact and_bool (by omega) | (simp; done) | (simp [hg45]; done) | (have h80 := hg45; (try simp at h80); simp [h80]; done) | exact (decide_eq_false (fun h9 => hg45 h9.1)).symm)) .nil))))))), hM⟩
           ·
            clear hA; intro hg45 hA
            refine S.no (dj := 135) hA (by kernel_rfl) rfl rfl rfl ?_; clear hA a; intro a hA
            refine S.no (dj := 135) hA (by kernel_rfl) rfl rfl rfl ?_; clear hA a; intro a hA
            refine S.val hA (R.pickF rfl rfl) rfl ?_; clear hA a; intro a hA
            refine S.done ?_
            replace hA : St 303 [(2, _), (5, _), (6, _), (9, _), (10, _), (12, _), (138, _)] a := hA.sub ((.cons rfl (.cons rfl (.cons rfl (.cons rfl (.cons rfl (.cons rfl (.cons rfl .nil))))))))
            exact hJ _ _ ⟨hA.sub (.cons rfl (.cons rfl (.cons rfl (.cons rfl (.cons rfl (.cons rfl (.cons (by first | rfl | exact congrArg (fun b => some (Value.bool b)) (by first | exact decide_eq_decide.2 (by omega) | exact or_bool (by omega) | exact and_bool (by omega) | (simp; done) | (simp [hg45]; done) | (have h80 := hg45; (try simp at h80); simp [h80]; done) | exact (decide_eq_false (fun h9 => hg45 h9.1)).symm)) .nil))))))), hM⟩
   ·
    refine Ends.region ?_
    refine S.val hA (R.move rfl) rfl ?_; clear hA a; intro a hA
    refine S.val hA (R.indexAddr (q := 0 * 4) sl65 rfl rfl (by first | omega | (rw [nmI_len]; omega) | (simp only [nmI_len]; omega)) (by first | omega | (rw [nmI_len]; omega) | (simp only [nmI_len]; omega))) rfl ?_; clear hA a; intro a hA
    refine S.val hA (R.fieldAddr (q := 0 * 4 + 0) fi69_0 rfl rfl rfl) rfl ?_; clear hA a; intro a hA
    refine S.val hA (R.load sz3 rfl (hM.tokRow (k := 0) rfl (i := 0) (by omega) 0 _ rfl)) rfl ?_; clear hA a; intro a hA
    refine S.val hA (R.eql rfl rfl) rfl ?_; clear hA a; intro a hA
    refine S.val hA (R.move rfl) rfl ?_; clear hA a; intro a hA
    refine hA.split (d := 53) rfl ?_ ?_
    ·
     clear hA; intro hg46 hA
     refine S.no (dj := 53) hA (by kernel_rfl) rfl rfl rfl ?_; clear hA a; intro a hA
     refine S.no (dj := 53) hA (by kernel_rfl) rfl rfl rfl ?_; clear hA a; intro a hA
     refine S.no (dj := 53) hA (by kernel_rfl) rfl rfl rfl ?_; clear hA a; intro a hA
     refine S.noU (dj := 56) hA (by kernel_rfl) rfl rfl ?_; clear hA a; intro a hA
     refine S.noU (dj := 56) hA (by kernel_rfl) rfl rfl ?_; clear hA a; intro a hA
     refine S.no (dj := 53) hA (by kernel_rfl) rfl rfl rfl ?_; clear hA a; intro a hA
     refine S.no (dj := 53) hA (by kernel_rfl) rfl rfl rfl ?_; clear hA a; intro a hA
     refine S.noU (dj := 60) hA (by kernel_rfl) rfl rfl ?_; clear hA a; intro a hA
     refine S.noU (dj := 60) hA (by kernel_rfl) rfl rfl ?_; clear hA a; intro a hA
     refine S.no (dj := 53) hA (by kernel_rfl) rfl rfl rfl ?_; clear hA a; intro a hA
     refine S.val hA (R.pickT rfl rfl) rfl ?_; clear hA a; intro a hA
     refine S.done ?_
     replace hA : St 303 [(2, _), (5, _), (6, _), (9, _), (64, _)] a := hA.sub ((.cons rfl (.cons rfl (.cons rfl (.cons rfl (.cons rfl .nil))))))
     exact hJ _ _ ⟨hA.sub (.cons rfl (.cons rfl (.cons rfl (.cons rfl (.cons (by first | rfl | exact congrArg (fun b => some (Value.bool b)) (by first | exact decide_eq_decide.2 (by omega) | exact or_bool (by omega) | exact and_bool (by omega) | (simp; done) | (simp [hg46]; done) | (have h80 := hg46; (try simp at h80); simp [h80]; done) | exact (decide_eq_false (fun h9 => hg46 h9.1)).symm)) .nil))))), hM⟩
    ·
     clear hA; intro hg46 hA
     refine S.valg (dj := 53) hA (by kernel_rfl) rfl (R.move rfl) rfl ?_; clear hA a; intro a hA
     refine S.valg (dj := 53) hA (by kernel_rfl) rfl (R.neqStr rfl rfl) rfl ?_; clear hA a; intro a hA
     refine S.valg (dj := 53) hA (by kernel_rfl) rfl (R.move rfl) rfl ?_; clear hA a; intro a hA
     refine hA.split (d := 56) rfl ?_ ?_
     ·
      clear hA; intro hg47 hA
      refine S.valg (dj := 56) hA (by kernel_rfl) rfl (R.move rfl) rfl ?_; clear hA a; intro a hA
      refine S.valg (dj := 56) hA (by kernel_rfl) rfl (R.neqStr rfl rfl) rfl ?_; clear hA a; intro a hA
      refine S.valg (dj := 53) hA (by kernel_rfl) rfl (R.pickT rfl rfl) rfl ?_; clear hA a; intro a hA
      refine S.valg (dj := 53) hA (by kernel_rfl) rfl (R.move rfl) rfl ?_; clear hA a; intro a hA
      refine hA.split (d := 60) rfl ?_ ?_
      ·
       clear hA; intro hg48 hA
       refine S.valg (dj := 60) hA (by kernel_rfl) rfl (R.move rfl) rfl ?_; clear hA a; intro a hA
       refine S.valg (dj := 60) hA (by kernel_rfl) rfl (R.neqStr rfl rfl) rfl ?_; clear hA a; intro a hA
       refine S.valg (dj := 53) hA (by kernel_rfl) rfl (R.pickT rfl rfl) rfl ?_; clear hA a; intro a hA
       refine S.val hA (R.pickF rfl rfl) rfl ?_; clear hA a; intro a hA
       refine S.done ?_
       replace hA : St 303 [(2, _), (5, _), (6, _), (9, _), (64, _)] a := hA.sub ((.cons rfl (.cons rfl (.cons rfl (.cons rfl (.cons rfl .nil))))))
       exact hJ _ _ ⟨hA.sub (.cons rfl (.cons rfl (.cons rfl (.cons rfl (.cons (by first | rfl | exact congrArg (fun b => some (Value.bool b)) (by first | exact decide_eq_decide.2 (by omega) | exact or_bool (by omega) | exact and_bool (by omega) | (simp; done) | (simp [hg46, hg47, hg48]; done) | (have h80 := hg46; (try simp at h80); have h81 := hg47; (try simp at h81); have h82 := hg48; (try simp at h82); simp [h80, h81, h82]; done) | exact (decide_eq_false (fun h9 => hg46 h9.1)).symm | exact (decide_eq_false (fun h9 => hg47 h9.1)).symm | exact (decide_eq_false (fun h9 => hg48 h9.1)).symm)) .nil))))), hM⟩
      ·
       clear hA; intro hg48 hA
       refine S.no (dj := 60) hA (by kernel_rfl) rfl rfl rfl ?_; clear hA a; intro a hA
       refine S.no (dj := 60) hA (by kernel_rfl) rfl rfl rfl ?_; clear hA a; intro a hA
       refine S.valg (dj := 53) hA (by kernel_rfl) rfl (R.pickF rfl rfl) rfl ?_; clear hA a; intro a hA
       refine S.val hA (R.pickF rfl rfl) rfl ?_; clear hA a; intro a hA
       refine S.done ?_
       replace hA : St 303 [(2, _), (5, _), (6, _), (9, _), (64, _)] a := hA.sub ((.cons rfl (.cons rfl (.cons rfl (.cons rfl (.cons rfl .nil))))))
       exact hJ _ _ ⟨hA.sub (.cons rfl (.cons rfl (.cons rfl (.cons rfl (.cons (by first | rfl | exact congrArg (fun b => some (Value.bool b)) (by first | exact decide_eq_decide.2 (by omega) | exact or_bool (by omega) | exact and_bool (by omega) | (simp; done) | (simp [hg46, hg47, hg48]; done) | (have h80 := hg46; (try simp at h80); have h81 := hg47; (try simp at h81); have h82 := hg48; (try simp at h82); simp [h80, h81, h82]; done) | exact (decide_eq_false (fun h9 => hg46 h9.1)).symm | exact (decide_eq_false (fun h9 => hg47 h9.1)).symm | exact (decide_eq_false (fun h9 => hg48 h9.1)).symm)) .nil))))), hM⟩
     ·
      clear hA; intro hg47 hA
      refine S.no (dj := 56) hA (by kernel_rfl) rfl rfl rfl ?_; clear hA a; intro a hA
      refine S.no (dj := 56) hA (by kernel_rfl) rfl rfl rfl ?_; clear hA a; intro a hA
      refine S.valg (dj := 53) hA (by kernel_rfl) rfl (R.pickF rfl rfl) rfl ?_; clear hA a; intro a hA
      refine S.valg (dj := 53) hA (by kernel_rfl) rfl (R.move rfl) rfl ?_; clear hA a; intro a hA
      refine S.no (dj := 60) hA (by kernel_rfl) rfl rfl rfl ?_; clear hA a; intro a hA
      refine S.no (dj := 60) hA (by kernel_rfl) rfl rfl rfl ?_; clear hA a; intro a hA
      refine S.valg (dj := 53) hA (by kernel_rfl) rfl (R.pickF rfl rfl) rfl ?_; clear hA a; intro a hA
      refine S.val hA (R.pickF rfl rfl) rfl ?_; clear hA a; intro a hA
      refine S.done ?_
      replace hA : St 303 [(2, _), (5, _), (6, _), (9, _), (64, _)] a := hA.sub ((.cons rfl (.cons rfl (.cons rfl (.cons rfl (.cons rfl .nil))))))
      exact hJ _ _ ⟨hA.sub (.cons rfl (.cons rfl (.cons rfl (.cons rfl (.cons (by first | rfl | exact congrArg (fun b => some (Value.bool b)) (by first | exact decide_eq_decide.2 (by omega) | exact or_bool (by omega) | exact and_bool (by omega) | (simp; done) | (simp [hg46, hg47]; done) | (have h80 := hg46; (try simp at h80); have h81 := hg47; (try simp at h81); simp [h80, h81]; done) | exact (decide_eq_false (fun h9 => hg46 h9.1)).symm | exact (decide_eq_false (fun h9 => hg47 h9.1)).symm)) .nil))))), hM⟩
theorem rparse06 (s : ByteArray) (hs : s.size ≤ 9223372036854775807) (w : World) : Calls Tryd.prog 29 #[.string s] w fun e w' => ∃ a3 c3 a4 c4 a5 c5, e = .returned (.tuple #[.agg #[.int .i64 (prs s).1.kind, .int .i64 (prs s).1.n, .int .i64 (prs s).1.cap, .slice a3 (prs s).1.wt.length c3, .slice a4 (prs s).1.vl.length c4, .slice a5 (prs s).1.cost.length c5], .int .i64 (prs s).2.1, .int .i64 (prs s).2.2]) ∧ (IntSl w' (.slice a3 (prs s).1.wt.length c3) (prs s).1.wt ∧ IntSl w' (.slice a4 (prs s).1.vl.length c4) (prs s).1.vl ∧ RowsV w' (.slice a5 (prs s).1.cost.length c5) (prs s).1.cost) ∧ Below w.heap.size w w' := by
  obtain ⟨X, p0, e0, hse⟩ : ∃ X p e, scan s = (X, p, e) := ⟨_, _, _, rfl⟩
  by_cases h1 : (X.getD 0 tz).x = ⟨#[75, 78, 65, 80, 83, 65, 67, 75]⟩
  · exact rparse06_KN s hs X p0 e0 hse h1 w
  · by_cases h2 : (X.getD 0 tz).x = ⟨#[65, 83, 83, 73, 71, 78, 77, 69, 78, 84]⟩
    · exact rparse06_AS s hs X p0 e0 hse h2 w
    · by_cases h3 : (X.getD 2 tz).x = ⟨#[70, 85, 76, 76]⟩
      · exact rparse06_FU s hs X p0 e0 hse ⟨h1, h2, h3⟩ w
      · exact rparse06_UP s hs X p0 e0 hse ⟨h1, h2, h3⟩ w
end Go.Proofs.YtakfcekfmdjklaaDoor
namespace Go.Proofs.YtakfcekfmdjklaaDoor
open Go.RowKit
theorem U8T.below {w w' : World} (h : U8T w) (hb : Below w.heap.size w w') : U8T w' := by
  have h1 := hb.block _ h.lt.1
  have h2 := hb.block _ h.lt.2
  exact ⟨fun c hc => by rw [cell_eq h1]; exact h.1 c hc, fun i hi => by rw [cell_eq h2, cell_eq h2]; exact h.2 i hi⟩
theorem parse_eq (s : ByteArray) (hs : s.size ≤ 9223372036854775807) (G : Ins) (p e0 : Int) (h : prs s = (G, p, e0)) (w : World) (htab : U8T w) : Calls Tryd.prog 28 #[.string s] w fun e w' => ∃ a3 c3 a4 c4 a5 c5, e = .returned (.tuple #[.agg #[.int .i64 G.kind, .int .i64 G.n, .int .i64 G.cap, .slice a3 G.wt.length c3, .slice a4 G.vl.length c4, .slice a5 G.cost.length c5], .int .i64 p, .int .i64 e0]) ∧ (IntSl w' (.slice a3 G.wt.length c3) G.wt ∧ IntSl w' (.slice a4 G.vl.length c4) G.vl ∧ RowsV w' (.slice a5 G.cost.length c5) G.cost) ∧ Below w.heap.size w w' := by
  have h1 := parse06 s hs w htab
  rwa [h] at h1
theorem rparse_eq (s : ByteArray) (hs : s.size ≤ 9223372036854775807) (G : Ins) (p e0 : Int) (h : prs s = (G, p, e0)) (w : World) : Calls Tryd.prog 29 #[.string s] w fun e w' => ∃ a3 c3 a4 c4 a5 c5, e = .returned (.tuple #[.agg #[.int .i64 G.kind, .int .i64 G.n, .int .i64 G.cap, .slice a3 G.wt.length c3, .slice a4 G.vl.length c4, .slice a5 G.cost.length c5], .int .i64 p, .int .i64 e0]) ∧ (IntSl w' (.slice a3 G.wt.length c3) G.wt ∧ IntSl w' (.slice a4 G.vl.length c4) G.vl ∧ RowsV w' (.slice a5 G.cost.length c5) G.cost) ∧ Below w.heap.size w w' := by
  have h1 := rparse06 s hs w
  rwa [h] at h1
def iT : Ins := ⟨3, 2, 0, [], [], [[0, 7], [7, 0]]⟩
theorem prs_t1 : prs ⟨#[84, 83, 80, 32, 50, 32, 85, 80, 80, 69, 82, 32, 55]⟩ = (iT, 0, 0) := by kernel_rfl
theorem prs_t2 : prs ⟨#[75, 78, 65, 80, 83, 65, 67, 75, 32, 48]⟩ = (insZ, 9, 1) := by kernel_rfl
set_option maxRecDepth 100000 in
set_option maxHeartbeats 400000 in
theorem parses_any  (w : World) (htab : U8T w) :
  Calls Tryd.prog 27 #[] w fun e w' => e = .returned (.bool true) ∧ Below w.heap.size w w' := by
 have hbs := Below.refl (B := w.heap.size) w
 have hM := Mem.start w
 refine Calls.of_ends (vs := []) Tryd.func27 rfl Tryd.ntmps27 rfl ?_
 intro a hA
 replace hA : St 52 [] a := hA
 refine Ends.seq (Ends.region ?_)
 refine S.val hA (R.assign rfl) rfl ?_; clear hA a; intro a hA
 refine S.done ?_
 refine Ends.seq (Ends.region ?_)
 refine S.call hA (R.callF Tryd.func28 rfl rfl rfl) rfl (parse_eq ⟨#[84, 83, 80, 32, 50, 32, 85, 80, 80, 69, 82, 32, 55]⟩ (by decide) iT 0 0 prs_t1 _ (U8T.below htab (Mem.trans0 hbs hM.nilL))) ?_; clear hA a
 rintro e w1 ⟨ap13, cp13, ap14, cp14, ap15, cp15, rfl, ⟨hp13, hp14, hp15⟩, hb⟩
 replace hM := hM.callB hb; clear hb
 have hbs := hbs.trans (hM.below.mono hbs.size)
 replace hM := Mem.start w1
 refine ⟨.tuple #[.agg #[.int .i64 iT.kind, .int .i64 iT.n, .int .i64 iT.cap, .slice ap13 iT.wt.length cp13, .slice ap14 iT.vl.length cp14, .slice ap15 iT.cost.length cp15], .int .i64 0, .int .i64 0], rfl, fun a hA => ?_⟩
 refine S.val hA (R.move rfl) rfl ?_; clear hA a; intro a hA
 refine S.val hA (R.extract (v := .agg #[.int .i64 iT.kind, .int .i64 iT.n, .int .i64 iT.cap, .slice ap13 iT.wt.length cp13, .slice ap14 iT.vl.length cp14, .slice ap15 iT.cost.length cp15]) rfl rfl) rfl ?_; clear hA a; intro a hA
 refine S.val hA (R.extract (v := .int .i64 0) rfl rfl) rfl ?_; clear hA a; intro a hA
 refine S.val hA (R.extract (v := .int .i64 0) rfl rfl) rfl ?_; clear hA a; intro a hA
 refine S.alloc hA hM info25 rfl rfl ?_; clear hA hM a; intro b2 w2 hb3 hM a hA
 replace hM : Mem _ _ [pt b2 cz0 25] _ := hM
 refine S.storeA (k := 0) hA hM sz25 rfl rfl rfl rfl rfl rfl ?_; clear hM
 intro w3 hM
 replace hM : Mem _ _ [pt b2 #[.int .i64 iT.kind, .int .i64 iT.n, .int .i64 iT.cap, .slice ap13 iT.wt.length cp13, .slice ap14 iT.vl.length cp14, .slice ap15 iT.cost.length cp15] 25] _ := hM
 refine S.val hA (R.assign rfl) rfl ?_; clear hA a; intro a hA
 refine S.val hA (R.assign rfl) rfl ?_; clear hA a; intro a hA
 refine S.done ?_
 replace hA : St 52 [(1, _), (3, _)] a := hA.sub ((.cons rfl (.cons rfl .nil)))
 refine Ends.seq (Ends.region ?_)
 refine S.call hA (R.callF Tryd.func28 rfl rfl rfl) rfl (parse_eq ⟨#[75, 78, 65, 80, 83, 65, 67, 75, 32, 48]⟩ (by decide) insZ 9 1 prs_t2 _ (U8T.below htab (Mem.trans0 hbs hM.nilL))) ?_; clear hA a
 rintro e w4 ⟨ap43, cp43, ap44, cp44, ap45, cp45, rfl, ⟨hp43, hp44, hp45⟩, hb⟩
 replace hM := hM.callB hb; clear hb
 have hbx5 := hM.block (k := 0) rfl
 have hbs := hbs.trans (hM.below.mono hbs.size)
 have hp13 := hp13.mem hM
 have hp14 := hp14.mem hM
 have hp15 := hp15.mem hM
 replace hM := Mem.start w4
 refine ⟨.tuple #[.agg #[.int .i64 insZ.kind, .int .i64 insZ.n, .int .i64 insZ.cap, .slice ap43 insZ.wt.length cp43, .slice ap44 insZ.vl.length cp44, .slice ap45 insZ.cost.length cp45], .int .i64 9, .int .i64 1], rfl, fun a hA => ?_⟩
 refine S.val hA (R.move rfl) rfl ?_; clear hA a; intro a hA
 refine S.val hA (R.extract (v := .agg #[.int .i64 insZ.kind, .int .i64 insZ.n, .int .i64 insZ.cap, .slice ap43 insZ.wt.length cp43, .slice ap44 insZ.vl.length cp44, .slice ap45 insZ.cost.length cp45]) rfl rfl) rfl ?_; clear hA a; intro a hA
 refine S.val hA (R.extract (v := .int .i64 9) rfl rfl) rfl ?_; clear hA a; intro a hA
 refine S.val hA (R.extract (v := .int .i64 1) rfl rfl) rfl ?_; clear hA a; intro a hA
 refine S.alloc hA hM info25 rfl rfl ?_; clear hA hM a; intro b6 w5 hb7 hM a hA
 replace hM : Mem _ _ [pt b6 cz0 25] _ := hM
 refine S.storeA (k := 0) hA hM sz25 rfl rfl rfl rfl rfl rfl ?_; clear hM
 intro w6 hM
 replace hM : Mem _ _ [pt b6 #[.int .i64 insZ.kind, .int .i64 insZ.n, .int .i64 insZ.cap, .slice ap43 insZ.wt.length cp43, .slice ap44 insZ.vl.length cp44, .slice ap45 insZ.cost.length cp45] 25] _ := hM
 refine S.val hA (R.assign rfl) rfl ?_; clear hA a; intro a hA
 refine S.val hA (R.assign rfl) rfl ?_; clear hA a; intro a hA
 refine S.done ?_
 replace hA : St 52 [(1, _), (3, _), (5, _), (6, _)] a := hA.sub ((.cons rfl (.cons rfl (.cons rfl (.cons rfl .nil)))))
 refine Ends.seq (Ends.region ?_)
 refine S.val hA (R.move rfl) rfl ?_; clear hA a; intro a hA
 refine S.val hA (R.tt (R.eql rfl rfl) (by first | decide | simp | omega)) rfl ?_; clear hA a; intro a hA
 refine S.val hA (R.move rfl) rfl ?_; clear hA a; intro a hA
 refine S.valg (dj := 19) hA (by kernel_rfl) rfl (R.fieldAddr (q := 0) fi25_0 rfl rfl rfl) rfl ?_; clear hA a; intro a hA
 refine S.valg (dj := 19) hA (by kernel_rfl) rfl (R.load sz3 rfl (hM.cellB hbx5 rfl)) rfl ?_; clear hA a; intro a hA
 refine S.valg (dj := 19) hA (by kernel_rfl) rfl (R.tt (R.eql rfl rfl) (by rfl)) rfl ?_; clear hA a; intro a hA
 refine S.val hA (R.pickT rfl rfl) rfl ?_; clear hA a; intro a hA
 refine S.val hA (R.move rfl) rfl ?_; clear hA a; intro a hA
 refine S.valg (dj := 24) hA (by kernel_rfl) rfl (R.fieldAddr (q := 1) fi25_1 rfl rfl rfl) rfl ?_; clear hA a; intro a hA
 refine S.valg (dj := 24) hA (by kernel_rfl) rfl (R.load sz3 rfl (hM.cellB hbx5 rfl)) rfl ?_; clear hA a; intro a hA
 refine S.valg (dj := 24) hA (by kernel_rfl) rfl (R.tt (R.eql rfl rfl) (by rfl)) rfl ?_; clear hA a; intro a hA
 refine S.val hA (R.pickT rfl rfl) rfl ?_; clear hA a; intro a hA
 refine S.val hA (R.move rfl) rfl ?_; clear hA a; intro a hA
 refine S.valg (dj := 29) hA (by kernel_rfl) rfl (R.fieldAddr (q := 5) fi25_5 rfl rfl rfl) rfl ?_; clear hA a; intro a hA
 refine S.valg (dj := 29) hA (by kernel_rfl) rfl (R.load sz23 rfl (hM.cellB hbx5 rfl)) rfl ?_; clear hA a; intro a hA
 refine S.valg (dj := 29) hA (by kernel_rfl) rfl (R.lenS Tryd.underlying23 rfl rfl) rfl ?_; clear hA a; intro a hA
 refine S.valg (dj := 29) hA (by kernel_rfl) rfl (R.tt (R.eql rfl rfl) (by rfl)) rfl ?_; clear hA a; intro a hA
 refine S.val hA (R.pickT rfl rfl) rfl ?_; clear hA a; intro a hA
 refine S.val hA (R.move rfl) rfl ?_; clear hA a; intro a hA
 refine S.valg (dj := 35) hA (by kernel_rfl) rfl (R.fieldAddr (q := 5) fi25_5 rfl rfl rfl) rfl ?_; clear hA a; intro a hA
 refine S.valg (dj := 35) hA (by kernel_rfl) rfl (R.load sz23 rfl (hM.cellB hbx5 rfl)) rfl ?_; clear hA a; intro a hA
 refine S.valg (dj := 35) hA (by kernel_rfl) rfl (R.idxR hp15 (j := 1) sl23 rfl rfl (by first | omega | decide) (rfl)) rfl ?_; clear hA a; intro a hA
 obtain ⟨ra8, rc9, hrow10, hld11⟩ := hp15.atP (i := 1) (by first | omega | decide)
 refine S.valg (dj := 35) hA (by kernel_rfl) rfl (hld11 _ _ _ _ _ _ hM sz22 rfl) rfl ?_; clear hA a; intro a hA
 refine S.valg (dj := 35) hA (by kernel_rfl) rfl (R.idxI hrow10 (j := 0) sl22 rfl rfl (by first | omega | decide) (rfl)) rfl ?_; clear hA a; intro a hA
 refine S.valg (dj := 35) hA (by kernel_rfl) rfl (R.loadI (hrow10.mem hM) sz3 rfl (by first | omega | decide)) rfl ?_; clear hA a; intro a hA
 refine S.valg (dj := 35) hA (by kernel_rfl) rfl (R.tt (R.eql rfl rfl) (by rfl)) rfl ?_; clear hA a; intro a hA
 refine S.val hA (R.pickT rfl rfl) rfl ?_; clear hA a; intro a hA
 refine S.val hA (R.move rfl) rfl ?_; clear hA a; intro a hA
 refine S.valg (dj := 44) hA (by kernel_rfl) rfl (R.move rfl) rfl ?_; clear hA a; intro a hA
 refine S.valg (dj := 44) hA (by kernel_rfl) rfl (R.tt (R.eql rfl rfl) (by first | decide | simp | omega)) rfl ?_; clear hA a; intro a hA
 refine S.val hA (R.pickT rfl rfl) rfl ?_; clear hA a; intro a hA
 refine S.val hA (R.move rfl) rfl ?_; clear hA a; intro a hA
 refine S.valg (dj := 48) hA (by kernel_rfl) rfl (R.move rfl) rfl ?_; clear hA a; intro a hA
 refine S.valg (dj := 48) hA (by kernel_rfl) rfl (R.tt (R.eql rfl rfl) (by first | decide | simp | omega)) rfl ?_; clear hA a; intro a hA
 refine S.val hA (R.pickT rfl rfl) rfl ?_; clear hA a; intro a hA
 refine S.val hA (R.assign rfl) rfl ?_; clear hA a; intro a hA
 refine S.done ?_
 replace hA : St 52 [(0, _)] a := hA.sub ((.cons rfl .nil))
 refine Ends.ret1 Tryd.func27 Tryd.results27 hA rfl ?_
 exact ⟨rfl, Mem.trans0 hbs hM.nilL⟩
set_option maxRecDepth 100000 in
set_option maxHeartbeats 400000 in
theorem parseTells_w (s : ByteArray) (hs : s.size ≤ 9223372036854775807) (w : World) (htab : U8T w) :
  Calls Tryd.prog 8 #[.string s] w fun e w' => e = .returned (.bool true) ∧ Below w.heap.size w w' := by
 have hbs := Below.refl (B := w.heap.size) w
 have hM := Mem.start w
 refine Calls.of_ends (vs := [.string s]) Tryd.func8 rfl Tryd.ntmps8 rfl ?_
 intro a hA
 replace hA : St 41 [(0, _)] a := hA
 refine Ends.seq (Ends.region ?_)
 refine S.val hA (R.assign rfl) rfl ?_; clear hA a; intro a hA
 refine S.done ?_
 refine Ends.seq (Ends.seq (Ends.region ?_))
 refine S.val hA (R.move rfl) rfl ?_; clear hA a; intro a hA
 refine S.val hA (R.lenStr Tryd.underlying9 rfl rfl) rfl ?_; clear hA a; intro a hA
 refine S.val hA (R.gtr rfl rfl) rfl ?_; clear hA a; intro a hA
 refine S.done ?_
 refine Ends.ite hA rfl (fun hc1 => ?_) (fun hc1 => ?_)
 ·
  refine Ends.seq (Ends.region ?_)
  refine S.call hA (R.callF Tryd.func27 rfl rfl rfl) rfl (parses_any _ (U8T.below htab (Mem.trans0 hbs hM.nilL))) ?_; clear hA a
  rintro e w1 ⟨rfl, hb⟩
  replace hM := hM.callB hb; clear hb
  refine ⟨.bool true, rfl, fun a hA => ?_⟩
  refine S.val hA (R.assign rfl) rfl ?_; clear hA a; intro a hA
  refine S.done ?_
  replace hA : St 41 [(0, _), (2, _)] a := hA.sub ((.cons rfl (.cons rfl .nil)))
  refine Ends.ret1 Tryd.func8 Tryd.results8 hA rfl ?_
  exact ⟨rfl, Mem.trans0 hbs hM.nilL⟩
 ·
  refine Ends.skip (Ends.seq (Ends.region ?_))
  refine S.val hA (R.move rfl) rfl ?_; clear hA a; intro a hA
  obtain ⟨G1, pa1, pe1, hpr1⟩ : ∃ G p e, prs s = (G, p, e) := ⟨_, _, _, rfl⟩
  refine S.call hA (R.callF Tryd.func28 rfl rfl rfl) rfl (parse_eq s (by omega) G1 pa1 pe1 hpr1 _ (U8T.below htab (Mem.trans0 hbs hM.nilL))) ?_; clear hA a
  rintro e w2 ⟨ap23, cp23, ap24, cp24, ap25, cp25, rfl, ⟨hp23, hp24, hp25⟩, hb⟩
  replace hM := hM.callB hb; clear hb
  have hbs := hbs.trans (hM.below.mono hbs.size)
  replace hM := Mem.start w2
  refine ⟨.tuple #[.agg #[.int .i64 G1.kind, .int .i64 G1.n, .int .i64 G1.cap, .slice ap23 G1.wt.length cp23, .slice ap24 G1.vl.length cp24, .slice ap25 G1.cost.length cp25], .int .i64 pa1, .int .i64 pe1], rfl, fun a hA => ?_⟩
  refine S.val hA (R.move rfl) rfl ?_; clear hA a; intro a hA
  refine S.val hA (R.extract (v := .agg #[.int .i64 G1.kind, .int .i64 G1.n, .int .i64 G1.cap, .slice ap23 G1.wt.length cp23, .slice ap24 G1.vl.length cp24, .slice ap25 G1.cost.length cp25]) rfl rfl) rfl ?_; clear hA a; intro a hA
  refine S.val hA (R.extract (v := .int .i64 pa1) rfl rfl) rfl ?_; clear hA a; intro a hA
  refine S.val hA (R.extract (v := .int .i64 pe1) rfl rfl) rfl ?_; clear hA a; intro a hA
  refine S.alloc hA hM info25 rfl rfl ?_; clear hA hM a; intro b3 w3 hb4 hM a hA
  replace hM : Mem _ _ [pt b3 cz0 25] _ := hM
  refine S.storeA (k := 0) hA hM sz25 rfl rfl rfl rfl rfl rfl ?_; clear hM
  intro w4 hM
  replace hM : Mem _ _ [pt b3 #[.int .i64 G1.kind, .int .i64 G1.n, .int .i64 G1.cap, .slice ap23 G1.wt.length cp23, .slice ap24 G1.vl.length cp24, .slice ap25 G1.cost.length cp25] 25] _ := hM
  refine S.val hA (R.assign rfl) rfl ?_; clear hA a; intro a hA
  refine S.val hA (R.assign rfl) rfl ?_; clear hA a; intro a hA
  refine S.done ?_
  replace hA : St 41 [(0, _), (3, _), (4, _), (5, _)] a := hA.sub ((.cons rfl (.cons rfl (.cons rfl (.cons rfl .nil)))))
  refine Ends.seq (Ends.region ?_)
  refine S.val hA (R.move rfl) rfl ?_; clear hA a; intro a hA
  refine S.call hA (R.callF Tryd.func29 rfl rfl rfl) rfl (rparse_eq s (by omega) G1 pa1 pe1 hpr1 _) ?_; clear hA a
  rintro e w5 ⟨ap53, cp53, ap54, cp54, ap55, cp55, rfl, ⟨hp53, hp54, hp55⟩, hb⟩
  replace hM := hM.callB hb; clear hb
  have hbx6 := hM.block (k := 0) rfl
  have hbs := hbs.trans (hM.below.mono hbs.size)
  have hp23 := hp23.mem hM
  have hp24 := hp24.mem hM
  have hp25 := hp25.mem hM
  replace hM := Mem.start w5
  refine ⟨.tuple #[.agg #[.int .i64 G1.kind, .int .i64 G1.n, .int .i64 G1.cap, .slice ap53 G1.wt.length cp53, .slice ap54 G1.vl.length cp54, .slice ap55 G1.cost.length cp55], .int .i64 pa1, .int .i64 pe1], rfl, fun a hA => ?_⟩
  refine S.val hA (R.move rfl) rfl ?_; clear hA a; intro a hA
  refine S.val hA (R.extract (v := .agg #[.int .i64 G1.kind, .int .i64 G1.n, .int .i64 G1.cap, .slice ap53 G1.wt.length cp53, .slice ap54 G1.vl.length cp54, .slice ap55 G1.cost.length cp55]) rfl rfl) rfl ?_; clear hA a; intro a hA
  refine S.val hA (R.extract (v := .int .i64 pa1) rfl rfl) rfl ?_; clear hA a; intro a hA
  refine S.val hA (R.extract (v := .int .i64 pe1) rfl rfl) rfl ?_; clear hA a; intro a hA
  refine S.alloc hA hM info25 rfl rfl ?_; clear hA hM a; intro b7 w6 hb8 hM a hA
  replace hM : Mem _ _ [pt b7 cz0 25] _ := hM
  refine S.storeA (k := 0) hA hM sz25 rfl rfl rfl rfl rfl rfl ?_; clear hM
  intro w7 hM
  replace hM : Mem _ _ [pt b7 #[.int .i64 G1.kind, .int .i64 G1.n, .int .i64 G1.cap, .slice ap53 G1.wt.length cp53, .slice ap54 G1.vl.length cp54, .slice ap55 G1.cost.length cp55] 25] _ := hM
  refine S.val hA (R.assign rfl) rfl ?_; clear hA a; intro a hA
  refine S.val hA (R.assign rfl) rfl ?_; clear hA a; intro a hA
  refine S.done ?_
  replace hA : St 41 [(3, _), (4, _), (5, _), (6, _), (7, _), (8, _)] a := hA.sub ((.cons rfl (.cons rfl (.cons rfl (.cons rfl (.cons rfl (.cons rfl .nil)))))))
  refine Ends.seq (Ends.region ?_)
  refine S.call hA (R.callF Tryd.func27 rfl rfl rfl) rfl (parses_any _ (U8T.below htab (Mem.trans0 hbs hM.nilL))) ?_; clear hA a
  rintro e w8 ⟨rfl, hb⟩
  replace hM := hM.callB hb; clear hb
  refine ⟨.bool true, rfl, fun a hA => ?_⟩
  refine S.val hA (R.move rfl) rfl ?_; clear hA a; intro a hA
  refine S.valg (dj := 26) hA (by kernel_rfl) rfl (R.loadA sz25 rfl (hM.oldRange hbx6) rfl) rfl ?_; clear hA a; intro a hA
  refine S.valg (dj := 26) hA (by kernel_rfl) rfl (R.loadA sz25 rfl (hM.range (k := 0) rfl) rfl) rfl ?_; clear hA a; intro a hA
  refine S.callg (dj := 26) hA (by kernel_rfl) rfl (R.callF Tryd.func22 rfl rfl rfl) rfl (rSame_eq G1 ap23 cp23 ap24 cp24 ap25 cp25 ap53 cp53 ap54 cp54 ap55 cp55 _ (hp23.mem hM) (hp24.mem hM) (hp25.mem hM) (hp53.mem hM) (hp54.mem hM) (hp55.mem hM)) ?_; clear hA a
  rintro e w9 ⟨rfl, hb⟩
  replace hM := hM.callB hb; clear hb
  refine ⟨.bool true, rfl, fun a hA => ?_⟩
  refine S.val hA (R.pickT rfl rfl) rfl ?_; clear hA a; intro a hA
  refine S.val hA (R.move rfl) rfl ?_; clear hA a; intro a hA
  refine S.valg (dj := 31) hA (by kernel_rfl) rfl (R.move rfl) rfl ?_; clear hA a; intro a hA
  refine S.valg (dj := 31) hA (by kernel_rfl) rfl (R.move rfl) rfl ?_; clear hA a; intro a hA
  refine S.valg (dj := 31) hA (by kernel_rfl) rfl (R.tt (R.eql rfl rfl) (by first | decide | simp | omega)) rfl ?_; clear hA a; intro a hA
  refine S.val hA (R.pickT rfl rfl) rfl ?_; clear hA a; intro a hA
  refine S.val hA (R.move rfl) rfl ?_; clear hA a; intro a hA
  refine S.valg (dj := 36) hA (by kernel_rfl) rfl (R.move rfl) rfl ?_; clear hA a; intro a hA
  refine S.valg (dj := 36) hA (by kernel_rfl) rfl (R.move rfl) rfl ?_; clear hA a; intro a hA
  refine S.valg (dj := 36) hA (by kernel_rfl) rfl (R.tt (R.eql rfl rfl) (by first | decide | simp | omega)) rfl ?_; clear hA a; intro a hA
  refine S.val hA (R.pickT rfl rfl) rfl ?_; clear hA a; intro a hA
  refine S.val hA (R.assign rfl) rfl ?_; clear hA a; intro a hA
  refine S.done ?_
  replace hA : St 41 [(2, _)] a := hA.sub ((.cons rfl .nil))
  refine Ends.ret1 Tryd.func8 Tryd.results8 hA rfl ?_
  exact ⟨rfl, Mem.trans0 hbs hM.nilL⟩
theorem parseTells_any (s : ByteArray) (hs : s.size ≤ maxLen) (w : World) (htab : U8T w) : Calls Tryd.prog 8 #[.string s] w fun e w' => e = .returned (.bool true) ∧ Below w.heap.size w w' := parseTells_w s hs w htab
end Go.Proofs.YtakfcekfmdjklaaDoor
