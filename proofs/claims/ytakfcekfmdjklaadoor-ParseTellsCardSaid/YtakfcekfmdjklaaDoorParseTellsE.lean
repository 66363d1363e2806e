/-
  ParseTells, part 5 of 6: what the code computes, and plain laws; no condition beside those that each theorem tells.
-/
import Derived.Test.YtakfcekfmdjklaaDoorParseTellsD
namespace Go.Proofs.YtakfcekfmdjklaaDoor
open Go.RowKit
section
variable {w0 w : World} {F : Nat → Prop} {L : List Ck} {e : TypeId}
theorem Mem.orCS {Y : List Int} {a : Option Addr} {c : Nat} {rs : List OwR} (h : Mem w0 F (own e 1 (.slice a Y.length c) Y.length (Y.map (Value.int .i64)) :: bundle (rs.map (orC e)) :: L) w) : Mem w0 F (bundle ((rs ++ [(⟨Y, a, c⟩ : OwR)]).map (orC e)) :: L) w := Mem.bundleSnoc (o := ⟨Y, a, c⟩) h
end
set_option maxRecDepth 100000 in
set_option maxHeartbeats 400000 in
theorem want_kn (n : Nat) (hn : n ≤ 64) (w : World) :
    Calls Tryd.prog 50 #[.string (⟨#[75, 78, 65, 80, 83, 65, 67, 75]⟩), .int .i64 ((n : Int))] w fun e w' => e = .returned (.int .i64 ((1 + 2 * n : Nat) : Int)) ∧ w = w' := by
  have hbs := Below.refl (B := w.heap.size) w
  have hM := Mem.start w
  refine Calls.of_ends (vs := [.string (⟨#[75, 78, 65, 80, 83, 65, 67, 75]⟩), .int .i64 ((n : Int))]) Tryd.func50 rfl Tryd.ntmps50 rfl ?_
  intro a hA
  replace hA : St 21 [(0, _), (1, _)] a := hA
  refine Ends.seq (Ends.region ?_)
  refine S.val hA (R.assign rfl) rfl ?_; clear hA a; intro a hA
  refine S.done ?_
  refine Ends.seq (Ends.seq (Ends.region ?_))
  refine S.val hA (R.move rfl) rfl ?_; clear hA a; intro a hA
  refine S.done ?_
  refine Ends.block (Ends.seq (Ends.region ?_))
  refine S.val hA (R.tt (R.eqlStr rfl rfl) (by first | decide | simp | omega)) rfl ?_; clear hA a; intro a hA
  refine S.val hA (R.assign rfl) rfl ?_; clear hA a; intro a hA
  refine S.done ?_
  refine Ends.condT hA rfl ?_
  refine Ends.seq (Ends.region ?_)
  refine S.val hA (R.move rfl) rfl ?_; clear hA a; intro a hA
  refine S.val hA (R.mulI rfl rfl (r := 2 * ((n : Int))) rfl (by omega)) rfl ?_; clear hA a; intro a hA
  refine S.val hA (R.addI rfl rfl (r := 1 + (2 * ((n : Int)))) rfl (by omega)) rfl ?_; clear hA a; intro a hA
  refine S.val hA (R.assign rfl) rfl ?_; clear hA a; intro a hA
  refine S.done ?_
  replace hA : St 21 [(1, _), (4, _)] a := hA.sub ((.cons rfl (.cons rfl .nil)))
  refine Ends.ret1 Tryd.func50 Tryd.results50 hA rfl ?_
  have he : 1 + (2 * ((n : Int))) = ((1 + 2 * n : Nat) : Int) := by omega
  exact ⟨by rw [he], rfl⟩
set_option maxRecDepth 100000 in
set_option maxHeartbeats 400000 in
theorem want_fu (n : Nat) (hn : n ≤ 64) (w : World) :
  Calls Tryd.prog 50 #[.string (⟨#[70, 85, 76, 76]⟩), .int .i64 ((n : Int))] w fun e w' => e = .returned (.int .i64 ((n * n : Nat) : Int)) ∧ w = w' := by
 have hbs := Below.refl (B := w.heap.size) w
 have hb1 : (n : Int) * (n : Int) ≤ 64 * 64 := by exact_mod_cast nn_le hn
 have hb0 : 0 ≤ (n : Int) * (n : Int) := Int.mul_nonneg (by omega) (by omega)
 have hM := Mem.start w
 refine Calls.of_ends (vs := [.string (⟨#[70, 85, 76, 76]⟩), .int .i64 ((n : Int))]) Tryd.func50 rfl Tryd.ntmps50 rfl ?_
 intro a hA
 replace hA : St 21 [(0, _), (1, _)] a := hA
 refine Ends.seq (Ends.region ?_)
 refine S.val hA (R.assign rfl) rfl ?_; clear hA a; intro a hA
 refine S.done ?_
 refine Ends.seq (Ends.seq (Ends.region ?_))
 refine S.val hA (R.move rfl) rfl ?_; clear hA a; intro a hA
 refine S.done ?_
 refine Ends.block (Ends.seq (Ends.region ?_))
 refine S.val hA (R.ff (R.eqlStr rfl rfl) (by first | decide | simp | omega)) rfl ?_; clear hA a; intro a hA
 refine S.val hA (R.assign rfl) rfl ?_; clear hA a; intro a hA
 refine S.done ?_
 refine Ends.condF hA rfl ?_
 refine Ends.seq (Ends.region ?_)
 refine S.val hA (R.ff (R.eqlStr rfl rfl) (by first | decide | simp | omega)) rfl ?_; clear hA a; intro a hA
 refine S.val hA (R.assign rfl) rfl ?_; clear hA a; intro a hA
 refine S.done ?_
 replace hA : St 21 [(1, _), (11, _)] a := hA.sub ((.cons rfl (.cons rfl .nil)))
 refine Ends.condF hA rfl ?_
 refine Ends.skip (Ends.inBlock (Ends.seq (Ends.region ?_)))
 refine S.val hA (R.move rfl) rfl ?_; clear hA a; intro a hA
 refine S.val hA (R.move rfl) rfl ?_; clear hA a; intro a hA
 refine S.val hA (R.mulI rfl rfl (r := ((n : Int)) * ((n : Int))) rfl (by omega)) rfl ?_; clear hA a; intro a hA
 refine S.val hA (R.assign rfl) rfl ?_; clear hA a; intro a hA
 refine S.done ?_
 replace hA : St 21 [(4, _)] a := hA.sub ((.cons rfl .nil))
 refine Ends.ret1 Tryd.func50 Tryd.results50 hA rfl ?_
 have he : ((n : Int)) * ((n : Int)) = ((n * n : Nat) : Int) := by push_cast; rfl
 exact ⟨by rw [he], rfl⟩
set_option maxRecDepth 100000 in
set_option maxHeartbeats 400000 in
theorem want_as (n : Nat) (hn : n ≤ 64) (w : World) :
  Calls Tryd.prog 50 #[.string (⟨#[65, 83, 83, 73, 71, 78, 77, 69, 78, 84]⟩), .int .i64 ((n : Int))] w fun e w' => e = .returned (.int .i64 ((n * n : Nat) : Int)) ∧ w = w' := by
 have hbs := Below.refl (B := w.heap.size) w
 have hb1 : (n : Int) * (n : Int) ≤ 64 * 64 := by exact_mod_cast nn_le hn
 have hb0 : 0 ≤ (n : Int) * (n : Int) := Int.mul_nonneg (by omega) (by omega)
 have hM := Mem.start w
 refine Calls.of_ends (vs := [.string (⟨#[65, 83, 83, 73, 71, 78, 77, 69, 78, 84]⟩), .int .i64 ((n : Int))]) Tryd.func50 rfl Tryd.ntmps50 rfl ?_
 intro a hA
 replace hA : St 21 [(0, _), (1, _)] a := hA
 refine Ends.seq (Ends.region ?_)
 refine S.val hA (R.assign rfl) rfl ?_; clear hA a; intro a hA
 refine S.done ?_
 refine Ends.seq (Ends.seq (Ends.region ?_))
 refine S.val hA (R.move rfl) rfl ?_; clear hA a; intro a hA
 refine S.done ?_
 refine Ends.block (Ends.seq (Ends.region ?_))
 refine S.val hA (R.ff (R.eqlStr rfl rfl) (by first | decide | simp | omega)) rfl ?_; clear hA a; intro a hA
 refine S.val hA (R.assign rfl) rfl ?_; clear hA a; intro a hA
 refine S.done ?_
 refine Ends.condF hA rfl ?_
 refine Ends.seq (Ends.region ?_)
 refine S.val hA (R.ff (R.eqlStr rfl rfl) (by first | decide | simp | omega)) rfl ?_; clear hA a; intro a hA
 refine S.val hA (R.assign rfl) rfl ?_; clear hA a; intro a hA
 refine S.done ?_
 replace hA : St 21 [(1, _), (11, _)] a := hA.sub ((.cons rfl (.cons rfl .nil)))
 refine Ends.condF hA rfl ?_
 refine Ends.skip (Ends.inBlock (Ends.seq (Ends.region ?_)))
 refine S.val hA (R.move rfl) rfl ?_; clear hA a; intro a hA
 refine S.val hA (R.move rfl) rfl ?_; clear hA a; intro a hA
 refine S.val hA (R.mulI rfl rfl (r := ((n : Int)) * ((n : Int))) rfl (by omega)) rfl ?_; clear hA a; intro a hA
 refine S.val hA (R.assign rfl) rfl ?_; clear hA a; intro a hA
 refine S.done ?_
 replace hA : St 21 [(4, _)] a := hA.sub ((.cons rfl .nil))
 refine Ends.ret1 Tryd.func50 Tryd.results50 hA rfl ?_
 have he : ((n : Int)) * ((n : Int)) = ((n * n : Nat) : Int) := by push_cast; rfl
 exact ⟨by rw [he], rfl⟩
theorem up_cast {n : Nat} (h1 : 1 ≤ n) (h : n ≤ 24) : (n : Int) * ((n : Int) - 1) / 2 = ((hlf n : Nat) : Int) := by
  rw [hlf_eq n (by omega), show (n : Int) - 1 = ((n - 1 : Nat) : Int) by omega, ← Int.natCast_mul]; rfl
set_option maxRecDepth 100000 in
set_option maxHeartbeats 400000 in
theorem want_up (n : Nat) (hn1 : 1 ≤ n) (hn24 : n ≤ 24) (w : World) :
  Calls Tryd.prog 50 #[.string (⟨#[85, 80, 80, 69, 82]⟩), .int .i64 ((n : Int))] w fun e w' => e = .returned (.int .i64 ((hlf n : Nat) : Int)) ∧ w = w' := by
 have hbs := Below.refl (B := w.heap.size) w
 have hb1 : (n : Int) * ((n : Int) - 1) ≤ 64 * 64 := Int.le_trans (Int.mul_le_mul_of_nonneg_left (show (n : Int) - 1 ≤ 64 by omega) (by omega)) (by omega)
 have hb0 : 0 ≤ (n : Int) * ((n : Int) - 1) := Int.mul_nonneg (by omega) (by omega)
 have hup := up_cast hn1 hn24
 have hM := Mem.start w
 refine Calls.of_ends (vs := [.string (⟨#[85, 80, 80, 69, 82]⟩), .int .i64 ((n : Int))]) Tryd.func50 rfl Tryd.ntmps50 rfl ?_
 intro a hA
 replace hA : St 21 [(0, _), (1, _)] a := hA
 refine Ends.seq (Ends.region ?_)
 refine S.val hA (R.assign rfl) rfl ?_; clear hA a; intro a hA
 refine S.done ?_
 refine Ends.seq (Ends.seq (Ends.region ?_))
 refine S.val hA (R.move rfl) rfl ?_; clear hA a; intro a hA
 refine S.done ?_
 refine Ends.block (Ends.seq (Ends.region ?_))
 refine S.val hA (R.ff (R.eqlStr rfl rfl) (by first | decide | simp | omega)) rfl ?_; clear hA a; intro a hA
 refine S.val hA (R.assign rfl) rfl ?_; clear hA a; intro a hA
 refine S.done ?_
 refine Ends.condF hA rfl ?_
 refine Ends.seq (Ends.region ?_)
 refine S.val hA (R.tt (R.eqlStr rfl rfl) (by first | decide | simp | omega)) rfl ?_; clear hA a; intro a hA
 refine S.val hA (R.assign rfl) rfl ?_; clear hA a; intro a hA
 refine S.done ?_
 replace hA : St 21 [(1, _), (11, _)] a := hA.sub ((.cons rfl (.cons rfl .nil)))
 refine Ends.condT hA rfl ?_
 refine Ends.seq (Ends.region ?_)
 refine S.val hA (R.move rfl) rfl ?_; clear hA a; intro a hA
 refine S.val hA (R.move rfl) rfl ?_; clear hA a; intro a hA
 refine S.val hA (R.subI rfl rfl (r := ((n : Int)) - 1) rfl (by omega)) rfl ?_; clear hA a; intro a hA
 refine S.val hA (R.mulI rfl rfl (r := ((n : Int)) * (((n : Int)) - 1)) rfl (by omega)) rfl ?_; clear hA a; intro a hA
 refine S.val hA (R.quoI rfl rfl rfl (by omega)) rfl ?_; clear hA a; intro a hA
 refine S.val hA (R.assign rfl) rfl ?_; clear hA a; intro a hA
 refine S.done ?_
 replace hA : St 21 [(1, _), (4, _)] a := hA.sub ((.cons rfl (.cons rfl .nil)))
 refine Ends.ret1 Tryd.func50 Tryd.results50 hA rfl ?_
 exact ⟨by rw [← hup], rfl⟩
set_option maxRecDepth 100000 in
set_option maxHeartbeats 4000000 in
theorem rparse06_KN (s : ByteArray) (hs : s.size ≤ 9223372036854775807) (X : List Tok) (p0 e0 : Int) (hse : scan s = (X, p0, e0)) (hcs : (X.getD 0 tz).x = ⟨#[75, 78, 65, 80, 83, 65, 67, 75]⟩) (w : World) :
  Calls Tryd.prog 29 #[.string s] w fun e w' => ∃ a3 c3 a4 c4 a5 c5, e = .returned (.tuple #[.agg #[.int .i64 (prs s).1.kind, .int .i64 (prs s).1.n, .int .i64 (prs s).1.cap, .slice a3 (prs s).1.wt.length c3, .slice a4 (prs s).1.vl.length c4, .slice a5 (prs s).1.cost.length c5], .int .i64 (prs s).2.1, .int .i64 (prs s).2.2]) ∧ (IntSl w' (.slice a3 (prs s).1.wt.length c3) (prs s).1.wt ∧ IntSl w' (.slice a4 (prs s).1.vl.length c4) (prs s).1.vl ∧ RowsV w' (.slice a5 (prs s).1.cost.length c5) (prs s).1.cost) ∧ Below w.heap.size w w' := by
 have hbs := Below.refl (B := w.heap.size) w
 have hM := Mem.start w
 refine Calls.of_ends (vs := [.string s]) Tryd.func29 rfl Tryd.ntmps29 rfl ?_
 intro a hA
 replace hA : St 303 [(0, _)] a := hA
 refine Ends.seq (Ends.region ?_)
 refine S.alloc hA hM info25 rfl rfl ?_; clear hA hM a; intro b1 w1 hb2 hM a hA
 replace hM : Mem _ _ [pt b1 cz0 25] _ := hM
 refine S.val hA (R.assign rfl) rfl ?_; clear hA a; intro a hA
 refine S.val hA (R.assign rfl) rfl ?_; clear hA a; intro a hA
 refine S.done ?_
 refine Ends.seq (Ends.region ?_)
 refine S.val hA (R.build (cells := cz0) rfl (by kernel_rfl)) rfl ?_; clear hA a; intro a hA
 refine S.alloc hA hM info25 rfl rfl ?_; clear hA hM a; intro b3 w2 hb4 hM a hA
 replace hM : Mem _ _ [pt b3 cz0 25, pt b1 cz0 25] _ := hM
 refine S.storeA (k := 0) hA hM sz25 rfl rfl rfl rfl rfl rfl ?_; clear hM
 intro w3 hM
 replace hM : Mem _ _ [pt b3 cz0 25, pt b1 cz0 25] _ := hM
 refine S.done ?_
 refine Ends.seq (Ends.region ?_)
 refine S.val hA (R.move rfl) rfl ?_; clear hA a; intro a hA
 have hlen : X.length ≤ 1000000 := by have h9 := scan_len s; rw [hse] at h9; exact h9
 refine S.call hA (R.callF Tryd.func49 rfl rfl rfl) rfl (rscan_eq s (by omega) X p0 e0 hse _) ?_; clear hA a
 rintro e w4 ⟨a5, c6, rfl, hn⟩
 replace hM : Mem _ _ [own 69 4 (.slice a5 X.length c6) X.length (tokv X), pt b3 cz0 25, pt b1 cz0 25] _ := hM.call hn; clear hn
 refine ⟨.tuple #[.slice a5 X.length c6, .int .i64 p0, .int .i64 e0], rfl, fun a hA => ?_⟩
 refine S.val hA (R.move rfl) rfl ?_; clear hA a; intro a hA
 refine S.val hA (R.extract (v := .slice a5 X.length c6) rfl rfl) rfl ?_; clear hA a; intro a hA
 refine S.val hA (R.extract (v := .int .i64 p0) rfl rfl) rfl ?_; clear hA a; intro a hA
 refine S.val hA (R.extract (v := .int .i64 e0) rfl rfl) rfl ?_; clear hA a; intro a hA
 refine S.val hA (R.assign rfl) rfl ?_; clear hA a; intro a hA
 refine S.val hA (R.assign rfl) rfl ?_; clear hA a; intro a hA
 refine S.val hA (R.assign rfl) rfl ?_; clear hA a; intro a hA
 refine S.done ?_
 replace hA : St 303 [(2, _), (5, _), (6, _), (7, _), (8, _)] a := hA.sub ((.cons rfl (.cons rfl (.cons rfl (.cons rfl (.cons rfl .nil))))))
 refine Ends.seq (Ends.seq (Ends.region ?_))
 refine S.val hA (R.move rfl) rfl ?_; clear hA a; intro a hA
 refine S.val hA (R.neq rfl rfl) rfl ?_; clear hA a; intro a hA
 refine S.done ?_
 refine Ends.ite hA rfl (fun hc7 => ?_) (fun hc7 => ?_)
 ·
  refine Ends.seq (Ends.region ?_)
  refine S.val hA (R.loadA sz25 rfl (hM.range (k := 1) rfl) rfl) rfl ?_; clear hA a; intro a hA
  refine S.val hA (R.move rfl) rfl ?_; clear hA a; intro a hA
  refine S.val hA (R.move rfl) rfl ?_; clear hA a; intro a hA
  refine S.storeA (k := 2) hA hM sz25 rfl rfl rfl rfl rfl rfl ?_; clear hM
  intro w5 hM
  replace hM : Mem _ _ [own 69 4 (.slice a5 X.length c6) X.length (tokv X), pt b3 cz0 25, pt b1 cz0 25] _ := hM
  refine S.val hA (R.assign rfl) rfl ?_; clear hA a; intro a hA
  refine S.val hA (R.assign rfl) rfl ?_; clear hA a; intro a hA
  refine S.done ?_
  replace hA : St 303 [(2, _), (3, _), (4, _), (5, _), (6, _)] a := hA.sub ((.cons rfl (.cons rfl (.cons rfl (.cons rfl (.cons rfl .nil))))))
  refine Ends.retC3 (k := 2) Tryd.func29 Tryd.results29 hA hM rfl rfl rfl rfl sz25 rfl ?_
  rw [prs_scan' hse hc7]
  exact ⟨none, 0, none, 0, none, 0, rfl, nilI _, Mem.trans0 hbs hM.nilL⟩
 ·
  have hs0 := Decidable.not_not.1 hc7
  have hX : Toks X := by have h9 := scan_toks (s := s) (by rw [hse]; exact hs0) (by rw [hse]; exact hlen); rw [hse] at h9; exact h9
  have hX0 := hX.pos
  obtain ⟨g8, hg8⟩ := hM.ownAt (k := 0) rfl hX.pos
  subst hg8
  replace hM : Mem _ _ [own 69 4 (.slice (some ⟨g8, 0, none⟩) X.length c6) X.length (tokv X), pt b3 cz0 25, pt b1 cz0 25] _ := hM
  refine Ends.skip (Ends.seq (Ends.seq (Ends.region ?_)))
  refine S.val hA (R.move rfl) rfl ?_; clear hA a; intro a hA
  refine S.val hA (R.indexAddr (q := 0 * 4) sl65 rfl rfl (by first | omega | (rw [nmI_len]; omega) | (simp only [nmI_len]; omega)) (by first | omega | (rw [nmI_len]; omega) | (simp only [nmI_len]; omega))) rfl ?_; clear hA a; intro a hA
  refine S.val hA (R.fieldAddr (q := 0 * 4 + 0) fi69_0 rfl rfl rfl) rfl ?_; clear hA a; intro a hA
  refine S.val hA (R.load sz3 rfl (hM.tokRow (k := 0) rfl (i := 0) (by omega) 0 _ rfl)) rfl ?_; clear hA a; intro a hA
  refine S.val hA (R.eql rfl rfl) rfl ?_; clear hA a; intro a hA
  refine S.done ?_
  replace hA : St 303 [(2, _), (5, _), (6, _), (38, _)] a := hA.sub ((.cons rfl (.cons rfl (.cons rfl (.cons rfl .nil)))))
  refine Ends.ite hA rfl (fun hc9 => ?_) (fun hc9 => ?_)
  ·
   refine Ends.seq ?_
   refine Ends.drawn (Mem w nof [own 69 4 (.slice (some ⟨g8, 0, none⟩) X.length c6) X.length (tokv X), pt b3 cz0 25]) (.cons (0, true) (.cons (1, true) (.cons (2, true) (.cons (3, true) (.cons (4, true) (.cons (5, false) (.cons (6, true) (.cons (7, true) .nil)))))))) 8 mixed (by kernel_rfl) (by kernel_rfl) (by kernel_rfl) (hM.drop 2).drew ?_
   replace hM := hM.drew
   refine D.val hA rfl (by kernel_rfl) (fun _ hM => R.loadA sz25 rfl (hM.range (k := 1) rfl) rfl) rfl ?_; clear hA a; intro a hA
   refine D.valF hA rfl (fun _ => R.move rfl) rfl ?_; clear hA a; intro a hA
   refine D.valF hA rfl (fun _ => R.indexAddr (q := 0 * 4) sl65 rfl rfl (by first | omega | (rw [nmI_len]; omega) | (simp only [nmI_len]; omega)) (by first | omega | (rw [nmI_len]; omega) | (simp only [nmI_len]; omega))) rfl ?_; clear hA a; intro a hA
   refine D.valF hA rfl (fun _ => R.fieldAddr (q := 0 * 4 + 3) fi69_3 rfl rfl rfl) rfl ?_; clear hA a; intro a hA
   refine D.val hA rfl (by kernel_rfl) (fun _ hM => R.load sz3 rfl (hM.tokRow (k := 0) rfl (i := 0) (by omega) 3 _ rfl)) rfl ?_; clear hA a; intro a hA
   refine D.storeA (k := 2) hA hM rfl sz25 rfl rfl rfl rfl rfl rfl ?_; clear hM
   intro w6 hM; refine ⟨fun _ _ => (hM.drop 2), ?_⟩
   replace hM : Mem _ _ [own 69 4 (.slice (some ⟨g8, 0, none⟩) X.length c6) X.length (tokv X), pt b3 cz0 25, pt b1 cz0 25] _ := hM
   refine D.valF hA rfl (fun _ => R.assign rfl) rfl ?_; clear hA a; intro a hA
   refine D.valF hA rfl (fun _ => R.assign rfl) rfl ?_; clear hA a; intro a hA
   refine D.done ?_
   replace hA : St 303 [(2, _), (3, _), (4, _), (5, _), (6, _)] a := hA.sub ((.cons rfl (.cons rfl (.cons rfl (.cons rfl (.cons rfl .nil))))))
   refine Ends.retC3 (k := 2) Tryd.func29 Tryd.results29 hA hM rfl rfl rfl rfl sz25 rfl ?_
   have hpb : pbR X = (6, 0) := pb_w (wordR_end hc9) (by decide)
   rw [prs_bad' hse hs0 hpb (by decide)]
   exact ⟨none, 0, none, 0, none, 0, rfl, nilI _, Mem.trans0 hbs hM.nilL⟩
  ·
   have k03 : ¬ (X.getD 0 tz).k = 3 := hc9
   have hj1 := hX.next 0 hX0 k03
   refine Ends.skip (Ends.seq (Ends.region ?_))
   refine S.val hA (R.move rfl) rfl ?_; clear hA a; intro a hA
   refine S.val hA (R.indexAddr (q := 0 * 4) sl65 rfl rfl (by first | omega | (rw [nmI_len]; omega) | (simp only [nmI_len]; omega)) (by first | omega | (rw [nmI_len]; omega) | (simp only [nmI_len]; omega))) rfl ?_; clear hA a; intro a hA
   refine S.val hA (R.fieldAddr (q := 0 * 4 + 1) fi69_1 rfl rfl rfl) rfl ?_; clear hA a; intro a hA
   refine S.val hA (R.load sz9 rfl (hM.tokRow (k := 0) rfl (i := 0) (by omega) 1 _ rfl)) rfl ?_; clear hA a; intro a hA
   refine S.val hA (R.assign rfl) rfl ?_; clear hA a; intro a hA
   refine S.done ?_
   replace hA : St 303 [(2, _), (5, _), (6, _), (9, _)] a := hA.sub ((.cons rfl (.cons rfl (.cons rfl (.cons rfl .nil)))))
   refine Ends.seq (Ends.seq ?_)
   refine Ends.cut (fun (a : Act) (wv : World) => St 303 [(2, .pointer (some ⟨b1, 0, none⟩)), (5, .pointer (some ⟨b3, 0, none⟩)), (6, .slice (some ⟨g8, 0, none⟩) X.length c6), (9, .string ((X.getD 0 tz).x)), (64, .bool (decide ((((X.getD 0 tz).k) = 2 ∨ (((X.getD 0 tz).x ≠ ⟨#[75, 78, 65, 80, 83, 65, 67, 75]⟩ ∧ (X.getD 0 tz).x ≠ ⟨#[65, 83, 83, 73, 71, 78, 77, 69, 78, 84]⟩) ∧ (X.getD 0 tz).x ≠ ⟨#[84, 83, 80]⟩)))))] a ∧ Mem w nof [own 69 4 (.slice (some ⟨g8, 0, none⟩) X.length c6) X.length (tokv X), pt b3 cz0 25, pt b1 cz0 25] wv) ?_ (fun k2 hJ => ?_)
   ·
    clear hA hM a; rintro a w7 ⟨hA, hM⟩
    refine Ends.ite hA rfl (fun hc10 => ?_) (fun hc10 => ?_)
    ·
     refine Ends.seq ?_
     refine Ends.drawn (Mem w nof [own 69 4 (.slice (some ⟨g8, 0, none⟩) X.length c6) X.length (tokv X), pt b3 cz0 25]) (.cons (0, true) (.cons (1, true) (.cons (2, true) (.cons (3, true) (.cons (4, true) (.cons (5, false) (.cons (6, true) (.cons (7, true) .nil)))))))) 8 mixed (by kernel_rfl) (by kernel_rfl) (by kernel_rfl) (hM.drop 2).drew ?_
     replace hM := hM.drew
     refine D.val hA rfl (by kernel_rfl) (fun _ hM => R.loadA sz25 rfl (hM.range (k := 1) rfl) rfl) rfl ?_; clear hA a; intro a hA
     refine D.valF hA rfl (fun _ => R.move rfl) rfl ?_; clear hA a; intro a hA
     refine D.valF hA rfl (fun _ => R.indexAddr (q := 0 * 4) sl65 rfl rfl (by first | omega | (rw [nmI_len]; omega) | (simp only [nmI_len]; omega)) (by first | omega | (rw [nmI_len]; omega) | (simp only [nmI_len]; omega))) rfl ?_; clear hA a; intro a hA
     refine D.valF hA rfl (fun _ => R.fieldAddr (q := 0 * 4 + 3) fi69_3 rfl rfl rfl) rfl ?_; clear hA a; intro a hA
     refine D.val hA rfl (by kernel_rfl) (fun _ hM => R.load sz3 rfl (hM.tokRow (k := 0) rfl (i := 0) (by omega) 3 _ rfl)) rfl ?_; clear hA a; intro a hA
     refine D.storeA (k := 2) hA hM rfl sz25 rfl rfl rfl rfl rfl rfl ?_; clear hM
     intro w8 hM; refine ⟨fun _ _ => (hM.drop 2), ?_⟩
     replace hM : Mem _ _ [own 69 4 (.slice (some ⟨g8, 0, none⟩) X.length c6) X.length (tokv X), pt b3 cz0 25, pt b1 cz0 25] _ := hM
     refine D.valF hA rfl (fun _ => R.assign rfl) rfl ?_; clear hA a; intro a hA
     refine D.valF hA rfl (fun _ => R.assign rfl) rfl ?_; clear hA a; intro a hA
     refine D.done ?_
     replace hA : St 303 [(2, _), (3, _), (4, _), (5, _), (6, _), (9, _)] a := hA.sub ((.cons rfl (.cons rfl (.cons rfl (.cons rfl (.cons rfl (.cons rfl .nil)))))))
     refine Ends.retC3 (k := 2) Tryd.func29 Tryd.results29 hA hM rfl rfl rfl rfl sz25 rfl ?_
     have hpb : pbR X = (3, 0) := pb_w (w3_no k03 (by have h9 := hc10; simp only [wKN, wAS, wTS]; exact h9.imp_right fun g => ⟨g.1.1, g.1.2, g.2⟩)) (by decide)
     rw [prs_bad' hse hs0 hpb (by decide)]
     exact ⟨none, 0, none, 0, none, 0, rfl, nilI _, Mem.trans0 hbs hM.nilL⟩
    ·
     have hnw := hc10
     refine Ends.skip (Ends.seq (Ends.seq ?_))
     have hk01 := hX.one hX0 k03 hcs (by decide)
     have hw0 := w3_kn hk01 hcs
     rw [hcs] at hA
     refine Ends.region ?_
     refine S.val hA (R.move rfl) rfl ?_; clear hA a; intro a hA
     refine S.val hA (R.indexAddr (q := 1 * 4) sl65 rfl rfl (by first | omega | (rw [nmI_len]; omega) | (simp only [nmI_len]; omega)) (by first | omega | (rw [nmI_len]; omega) | (simp only [nmI_len]; omega))) rfl ?_; clear hA a; intro a hA
     refine S.val hA (R.fieldAddr (q := 1 * 4 + 0) fi69_0 rfl rfl rfl) rfl ?_; clear hA a; intro a hA
     refine S.val hA (R.load sz3 rfl (hM.tokRow (k := 0) rfl (i := 1) (by omega) 0 _ rfl)) rfl ?_; clear hA a; intro a hA
     refine S.val hA (R.eql rfl rfl) rfl ?_; clear hA a; intro a hA
     refine S.done ?_
     replace hA : St 303 [(2, _), (5, _), (6, _), (9, _), (74, _)] a := hA.sub ((.cons rfl (.cons rfl (.cons rfl (.cons rfl (.cons rfl .nil))))))
     refine Ends.ite hA rfl (fun hc11 => ?_) (fun hc11 => ?_)
     ·
      refine Ends.seq ?_
      refine Ends.drawn (Mem w nof [own 69 4 (.slice (some ⟨g8, 0, none⟩) X.length c6) X.length (tokv X), pt b3 cz0 25]) (.cons (0, true) (.cons (1, true) (.cons (2, true) (.cons (3, true) (.cons (4, true) (.cons (5, false) (.cons (6, true) (.cons (7, true) .nil)))))))) 8 mixed (by kernel_rfl) (by kernel_rfl) (by kernel_rfl) (hM.drop 2).drew ?_
      replace hM := hM.drew
      refine D.val hA rfl (by kernel_rfl) (fun _ hM => R.loadA sz25 rfl (hM.range (k := 1) rfl) rfl) rfl ?_; clear hA a; intro a hA
      refine D.valF hA rfl (fun _ => R.move rfl) rfl ?_; clear hA a; intro a hA
      refine D.valF hA rfl (fun _ => R.indexAddr (q := 1 * 4) sl65 rfl rfl (by first | omega | (rw [nmI_len]; omega) | (simp only [nmI_len]; omega)) (by first | omega | (rw [nmI_len]; omega) | (simp only [nmI_len]; omega))) rfl ?_; clear hA a; intro a hA
      refine D.valF hA rfl (fun _ => R.fieldAddr (q := 1 * 4 + 3) fi69_3 rfl rfl rfl) rfl ?_; clear hA a; intro a hA
      refine D.val hA rfl (by kernel_rfl) (fun _ hM => R.load sz3 rfl (hM.tokRow (k := 0) rfl (i := 1) (by omega) 3 _ rfl)) rfl ?_; clear hA a; intro a hA
      refine D.storeA (k := 2) hA hM rfl sz25 rfl rfl rfl rfl rfl rfl ?_; clear hM
      intro w9 hM; refine ⟨fun _ _ => (hM.drop 2), ?_⟩
      replace hM : Mem _ _ [own 69 4 (.slice (some ⟨g8, 0, none⟩) X.length c6) X.length (tokv X), pt b3 cz0 25, pt b1 cz0 25] _ := hM
      refine D.valF hA rfl (fun _ => R.assign rfl) rfl ?_; clear hA a; intro a hA
      refine D.valF hA rfl (fun _ => R.assign rfl) rfl ?_; clear hA a; intro a hA
      refine D.done ?_
      replace hA : St 303 [(2, _), (3, _), (4, _), (5, _), (6, _), (9, _)] a := hA.sub ((.cons rfl (.cons rfl (.cons rfl (.cons rfl (.cons rfl (.cons rfl .nil)))))))
      refine Ends.retC3 (k := 2) Tryd.func29 Tryd.results29 hA hM rfl rfl rfl rfl sz25 rfl ?_
      have hpb : pbR X = (6, 1) := pb_b hw0 rfl (bodR_cnt1 (c := 6) (cnt_6 hc11) (by decide)) (by decide)
      rw [prs_bad' hse hs0 hpb (by decide)]
      exact ⟨none, 0, none, 0, none, 0, rfl, nilI _, Mem.trans0 hbs hM.nilL⟩
     ·
      have k13 : ¬ (X.getD 1 tz).k = 3 := hc11
      have hj2 := hX.next 1 hj1 k13
      refine Ends.skip (Ends.seq (Ends.seq (Ends.region ?_)))
      refine S.val hA (R.move rfl) rfl ?_; clear hA a; intro a hA
      refine S.val hA (R.indexAddr (q := 1 * 4) sl65 rfl rfl (by first | omega | (rw [nmI_len]; omega) | (simp only [nmI_len]; omega)) (by first | omega | (rw [nmI_len]; omega) | (simp only [nmI_len]; omega))) rfl ?_; clear hA a; intro a hA
      refine S.val hA (R.fieldAddr (q := 1 * 4 + 0) fi69_0 rfl rfl rfl) rfl ?_; clear hA a; intro a hA
      refine S.val hA (R.load sz3 rfl (hM.tokRow (k := 0) rfl (i := 1) (by omega) 0 _ rfl)) rfl ?_; clear hA a; intro a hA
      refine S.val hA (R.eql rfl rfl) rfl ?_; clear hA a; intro a hA
      refine S.done ?_
      replace hA : St 303 [(2, _), (5, _), (6, _), (9, _), (84, _)] a := hA.sub ((.cons rfl (.cons rfl (.cons rfl (.cons rfl (.cons rfl .nil))))))
      refine Ends.ite hA rfl (fun hc12 => ?_) (fun hc12 => ?_)
      ·
       refine Ends.seq ?_
       refine Ends.drawn (Mem w nof [own 69 4 (.slice (some ⟨g8, 0, none⟩) X.length c6) X.length (tokv X), pt b3 cz0 25]) (.cons (0, true) (.cons (1, true) (.cons (2, true) (.cons (3, true) (.cons (4, true) (.cons (5, false) (.cons (6, true) (.cons (7, true) .nil)))))))) 8 mixed (by kernel_rfl) (by kernel_rfl) (by kernel_rfl) (hM.drop 2).drew ?_
       replace hM := hM.drew
       refine D.val hA rfl (by kernel_rfl) (fun _ hM => R.loadA sz25 rfl (hM.range (k := 1) rfl) rfl) rfl ?_; clear hA a; intro a hA
       refine D.valF hA rfl (fun _ => R.move rfl) rfl ?_; clear hA a; intro a hA
       refine D.valF hA rfl (fun _ => R.indexAddr (q := 1 * 4) sl65 rfl rfl (by first | omega | (rw [nmI_len]; omega) | (simp only [nmI_len]; omega)) (by first | omega | (rw [nmI_len]; omega) | (simp only [nmI_len]; omega))) rfl ?_; clear hA a; intro a hA
       refine D.valF hA rfl (fun _ => R.fieldAddr (q := 1 * 4 + 3) fi69_3 rfl rfl rfl) rfl ?_; clear hA a; intro a hA
       refine D.val hA rfl (by kernel_rfl) (fun _ hM => R.load sz3 rfl (hM.tokRow (k := 0) rfl (i := 1) (by omega) 3 _ rfl)) rfl ?_; clear hA a; intro a hA
       refine D.storeA (k := 2) hA hM rfl sz25 rfl rfl rfl rfl rfl rfl ?_; clear hM
       intro w10 hM; refine ⟨fun _ _ => (hM.drop 2), ?_⟩
       replace hM : Mem _ _ [own 69 4 (.slice (some ⟨g8, 0, none⟩) X.length c6) X.length (tokv X), pt b3 cz0 25, pt b1 cz0 25] _ := hM
       refine D.valF hA rfl (fun _ => R.assign rfl) rfl ?_; clear hA a; intro a hA
       refine D.valF hA rfl (fun _ => R.assign rfl) rfl ?_; clear hA a; intro a hA
       refine D.done ?_
       replace hA : St 303 [(2, _), (3, _), (4, _), (5, _), (6, _), (9, _)] a := hA.sub ((.cons rfl (.cons rfl (.cons rfl (.cons rfl (.cons rfl (.cons rfl .nil)))))))
       refine Ends.retC3 (k := 2) Tryd.func29 Tryd.results29 hA hM rfl rfl rfl rfl sz25 rfl ?_
       have hpb : pbR X = (4, 1) := pb_b hw0 rfl (bodR_cnt1 (c := 4) (cnt_4 k13 hc12) (by decide)) (by decide)
       rw [prs_bad' hse hs0 hpb (by decide)]
       exact ⟨none, 0, none, 0, none, 0, rfl, nilI _, Mem.trans0 hbs hM.nilL⟩
      ·
       have k11 : ¬ (X.getD 1 tz).k = 1 := hc12
       refine Ends.skip (Ends.seq (Ends.region ?_))
       refine S.val hA (R.move rfl) rfl ?_; clear hA a; intro a hA
       refine S.val hA (R.indexAddr (q := 1 * 4) sl65 rfl rfl (by first | omega | (rw [nmI_len]; omega) | (simp only [nmI_len]; omega)) (by first | omega | (rw [nmI_len]; omega) | (simp only [nmI_len]; omega))) rfl ?_; clear hA a; intro a hA
       refine S.val hA (R.fieldAddr (q := 1 * 4 + 2) fi69_2 rfl rfl rfl) rfl ?_; clear hA a; intro a hA
       refine S.val hA (R.load sz3 rfl (hM.tokRow (k := 0) rfl (i := 1) (by omega) 2 _ rfl)) rfl ?_; clear hA a; intro a hA
       refine S.val hA (R.assign rfl) rfl ?_; clear hA a; intro a hA
       refine S.val hA (R.assign rfl) rfl ?_; clear hA a; intro a hA
       refine S.done ?_
       replace hA : St 303 [(2, _), (5, _), (6, _), (9, _), (10, _), (11, _)] a := hA.sub ((.cons rfl (.cons rfl (.cons rfl (.cons rfl (.cons rfl (.cons rfl .nil)))))))
       refine Ends.seq (Ends.seq (Ends.region ?_))
       refine S.val hA (R.move rfl) rfl ?_; clear hA a; intro a hA
       refine S.val hA (R.tt (R.eqlStr rfl rfl) (by first | decide | simp | omega)) rfl ?_; clear hA a; intro a hA
       refine S.done ?_
       refine Ends.condT hA rfl ?_
       refine Ends.region ?_
       refine S.val hA (R.assign rfl) rfl ?_; clear hA a; intro a hA
       refine S.done ?_
       refine Ends.seq (Ends.seq (Ends.region ?_))
       refine S.val hA (R.move rfl) rfl ?_; clear hA a; intro a hA
       refine S.val hA (R.eql rfl rfl) rfl ?_; clear hA a; intro a hA
       refine S.done ?_
       refine Ends.ite hA rfl (fun hc13 => ?_) (fun hc13 => ?_)
       ·
        refine Ends.seq ?_
        refine Ends.drawn (Mem w nof [own 69 4 (.slice (some ⟨g8, 0, none⟩) X.length c6) X.length (tokv X), pt b3 cz0 25]) (.cons (0, true) (.cons (1, true) (.cons (2, true) (.cons (3, true) (.cons (4, true) (.cons (5, false) (.cons (6, true) (.cons (7, true) .nil)))))))) 8 mixed (by kernel_rfl) (by kernel_rfl) (by kernel_rfl) (hM.drop 2).drew ?_
        replace hM := hM.drew
        refine D.val hA rfl (by kernel_rfl) (fun _ hM => R.loadA sz25 rfl (hM.range (k := 1) rfl) rfl) rfl ?_; clear hA a; intro a hA
        refine D.valF hA rfl (fun _ => R.move rfl) rfl ?_; clear hA a; intro a hA
        refine D.valF hA rfl (fun _ => R.indexAddr (q := 1 * 4) sl65 rfl rfl (by first | omega | (rw [nmI_len]; omega) | (simp only [nmI_len]; omega)) (by first | omega | (rw [nmI_len]; omega) | (simp only [nmI_len]; omega))) rfl ?_; clear hA a; intro a hA
        refine D.valF hA rfl (fun _ => R.fieldAddr (q := 1 * 4 + 3) fi69_3 rfl rfl rfl) rfl ?_; clear hA a; intro a hA
        refine D.val hA rfl (by kernel_rfl) (fun _ hM => R.load sz3 rfl (hM.tokRow (k := 0) rfl (i := 1) (by omega) 3 _ rfl)) rfl ?_; clear hA a; intro a hA
        refine D.storeA (k := 2) hA hM rfl sz25 rfl rfl rfl rfl rfl rfl ?_; clear hM
        intro w11 hM; refine ⟨fun _ _ => (hM.drop 2), ?_⟩
        replace hM : Mem _ _ [own 69 4 (.slice (some ⟨g8, 0, none⟩) X.length c6) X.length (tokv X), pt b3 cz0 25, pt b1 cz0 25] _ := hM
        refine D.valF hA rfl (fun _ => R.assign rfl) rfl ?_; clear hA a; intro a hA
        refine D.valF hA rfl (fun _ => R.assign rfl) rfl ?_; clear hA a; intro a hA
        refine D.done ?_
        replace hA : St 303 [(2, _), (3, _), (4, _), (5, _), (6, _), (9, _), (10, _), (11, _)] a := hA.sub ((.cons rfl (.cons rfl (.cons rfl (.cons rfl (.cons rfl (.cons rfl (.cons rfl (.cons rfl .nil)))))))))
        refine Ends.retC3 (k := 2) Tryd.func29 Tryd.results29 hA hM rfl rfl rfl rfl sz25 rfl ?_
        have hpb : pbR X = (1, 1) := pb_b hw0 rfl (bodR_cnt1 (c := 1) (cnt_1 k13 k11 hc13 (by decide)) (by decide)) (by decide)
        rw [prs_bad' hse hs0 hpb (by decide)]
        exact ⟨none, 0, none, 0, none, 0, rfl, nilI _, Mem.trans0 hbs hM.nilL⟩
       ·
        have n10 : ¬ (X.getD 1 tz).n = 0 := hc13
        refine Ends.skip (Ends.seq (Ends.seq (Ends.region ?_)))
        refine S.val hA (R.move rfl) rfl ?_; clear hA a; intro a hA
        refine S.val hA (R.move rfl) rfl ?_; clear hA a; intro a hA
        refine S.val hA (R.gtr rfl rfl) rfl ?_; clear hA a; intro a hA
        refine S.done ?_
        replace hA : St 303 [(2, _), (5, _), (6, _), (9, _), (10, _), (105, _)] a := hA.sub ((.cons rfl (.cons rfl (.cons rfl (.cons rfl (.cons rfl (.cons rfl .nil)))))))
        refine Ends.ite hA rfl (fun hc14 => ?_) (fun hc14 => ?_)
        ·
         refine Ends.seq ?_
         refine Ends.drawn (Mem w nof [own 69 4 (.slice (some ⟨g8, 0, none⟩) X.length c6) X.length (tokv X), pt b3 cz0 25]) (.cons (0, true) (.cons (1, true) (.cons (2, true) (.cons (3, true) (.cons (4, true) (.cons (5, false) (.cons (6, true) (.cons (7, true) .nil)))))))) 8 mixed (by kernel_rfl) (by kernel_rfl) (by kernel_rfl) (hM.drop 2).drew ?_
         replace hM := hM.drew
         refine D.val hA rfl (by kernel_rfl) (fun _ hM => R.loadA sz25 rfl (hM.range (k := 1) rfl) rfl) rfl ?_; clear hA a; intro a hA
         refine D.valF hA rfl (fun _ => R.move rfl) rfl ?_; clear hA a; intro a hA
         refine D.valF hA rfl (fun _ => R.indexAddr (q := 1 * 4) sl65 rfl rfl (by first | omega | (rw [nmI_len]; omega) | (simp only [nmI_len]; omega)) (by first | omega | (rw [nmI_len]; omega) | (simp only [nmI_len]; omega))) rfl ?_; clear hA a; intro a hA
         refine D.valF hA rfl (fun _ => R.fieldAddr (q := 1 * 4 + 3) fi69_3 rfl rfl rfl) rfl ?_; clear hA a; intro a hA
         refine D.val hA rfl (by kernel_rfl) (fun _ hM => R.load sz3 rfl (hM.tokRow (k := 0) rfl (i := 1) (by omega) 3 _ rfl)) rfl ?_; clear hA a; intro a hA
         refine D.storeA (k := 2) hA hM rfl sz25 rfl rfl rfl rfl rfl rfl ?_; clear hM
         intro w12 hM; refine ⟨fun _ _ => (hM.drop 2), ?_⟩
         replace hM : Mem _ _ [own 69 4 (.slice (some ⟨g8, 0, none⟩) X.length c6) X.length (tokv X), pt b3 cz0 25, pt b1 cz0 25] _ := hM
         refine D.valF hA rfl (fun _ => R.assign rfl) rfl ?_; clear hA a; intro a hA
         refine D.valF hA rfl (fun _ => R.assign rfl) rfl ?_; clear hA a; intro a hA
         refine D.done ?_
         replace hA : St 303 [(2, _), (3, _), (4, _), (5, _), (6, _), (9, _), (10, _)] a := hA.sub ((.cons rfl (.cons rfl (.cons rfl (.cons rfl (.cons rfl (.cons rfl (.cons rfl .nil))))))))
         refine Ends.retC3 (k := 2) Tryd.func29 Tryd.results29 hA hM rfl rfl rfl rfl sz25 rfl ?_
         have hpb : pbR X = (5, 1) := pb_b hw0 rfl (bodR_cnt1 (c := 5) (cnt_5 k13 k11 hc14) (by decide)) (by decide)
         rw [prs_bad' hse hs0 hpb (by decide)]
         exact ⟨none, 0, none, 0, none, 0, rfl, nilI _, Mem.trans0 hbs hM.nilL⟩
        ·
         have n1m : ¬ 64 < (X.getD 1 tz).n := hc14
         have hn1_ := hX.num 1
         obtain ⟨n, hn⟩ : ∃ n : Nat, (X.getD 1 tz).n = (n : Int) := ⟨(X.getD 1 tz).n.toNat, by omega⟩
         obtain ⟨hc0, hc1⟩ := cnt_0 k13 k11 n1m n10
         have hcn : ctN X 1 64 = n := by unfold ctN; rw [hc1, hn]; rfl
         have hn1 : 1 ≤ n := by omega
         have hn64 : n ≤ 64 := by omega
         rw [hn] at hA
         refine Ends.skip (Ends.seq (Ends.region ?_))
         refine S.val hA (R.move rfl) rfl ?_; clear hA a; intro a hA
         refine S.val hA (R.build (cells := #[.int .i64 1, .int .i64 ((n : Int)), .int .i64 0, .slice none 0 0, .slice none 0 0, .slice none 0 0]) rfl (by kernel_rfl)) rfl ?_; clear hA a; intro a hA
         refine S.alloc hA hM info25 rfl rfl ?_; clear hA hM a; intro b15 w13 hb16 hM a hA
         replace hM : Mem _ _ [pt b15 cz0 25, own 69 4 (.slice (some ⟨g8, 0, none⟩) X.length c6) X.length (tokv X), pt b3 cz0 25, pt b1 cz0 25] _ := hM
         refine S.storeA (k := 0) hA hM sz25 rfl rfl rfl rfl rfl rfl ?_; clear hM
         intro w14 hM
         replace hM : Mem _ _ [pt b15 #[.int .i64 1, .int .i64 ((n : Int)), .int .i64 0, .slice none 0 0, .slice none 0 0, .slice none 0 0] 25, own 69 4 (.slice (some ⟨g8, 0, none⟩) X.length c6) X.length (tokv X), pt b3 cz0 25, pt b1 cz0 25] _ := hM
         refine S.done ?_
         refine Ends.seq (Ends.region ?_)
         refine S.val hA (R.assign rfl) rfl ?_; clear hA a; intro a hA
         refine S.done ?_
         refine Ends.seq (Ends.seq (Ends.region ?_))
         refine S.val hA (R.move rfl) rfl ?_; clear hA a; intro a hA
         refine S.val hA (R.ff (R.eqlStr rfl rfl) (by first | decide | simp | omega)) rfl ?_; clear hA a; intro a hA
         refine S.done ?_
         replace hA : St 303 [(2, _), (5, _), (6, _), (9, _), (10, _), (12, _), (13, _), (114, _)] a := hA.sub ((.cons rfl (.cons rfl (.cons rfl (.cons rfl (.cons rfl (.cons rfl (.cons rfl (.cons rfl .nil)))))))))
         refine Ends.condF hA rfl ?_
         refine Ends.skip (Ends.seq (Ends.seq (Ends.region ?_)))
         refine S.val hA (R.move rfl) rfl ?_; clear hA a; intro a hA
         refine S.val hA (R.ff (R.eqlStr rfl rfl) (by first | decide | simp | omega)) rfl ?_; clear hA a; intro a hA
         refine S.done ?_
         refine Ends.condF hA rfl ?_
         refine Ends.skip (Ends.seq (Ends.region ?_))
         refine S.val hA (R.assign rfl) rfl ?_; clear hA a; intro a hA
         refine S.done ?_
         refine Ends.seq (Ends.seq (Ends.region ?_))
         refine S.val hA (R.move rfl) rfl ?_; clear hA a; intro a hA
         refine S.val hA (R.move rfl) rfl ?_; clear hA a; intro a hA
         obtain ⟨M, hMv⟩ : ∃ M, 1 + 2 * n = M := ⟨_, rfl⟩
         refine S.call hA (R.callF Tryd.func50 rfl rfl rfl) rfl (hMv ▸ want_kn n (by omega) _) ?_; clear hA a
         rintro e w15 ⟨rfl, rfl⟩
         refine ⟨.int .i64 ((M : Int)), rfl, fun a hA => ?_⟩
         refine S.val hA (R.assign rfl) rfl ?_; clear hA a; intro a hA
         refine S.done ?_
         replace hA : St 303 [(2, _), (5, _), (6, _), (9, _), (10, _), (12, _), (13, _), (14, _), (15, _)] a := hA.sub ((.cons rfl (.cons rfl (.cons rfl (.cons rfl (.cons rfl (.cons rfl (.cons rfl (.cons rfl (.cons rfl .nil))))))))))
         refine Ends.block ?_
         have hMb : M ≤ 5000 := by omega
         replace hM := hM.ownNil 3 1
         replace hM : Mem _ _ [own 3 1 (.slice none (((nmI X 2 0)).length) 0) (((nmI X 2 0)).length) (((nmI X 2 0)).map (Value.int .i64)), pt b15 #[.int .i64 1, .int .i64 ((n : Int)), .int .i64 0, .slice none 0 0, .slice none 0 0, .slice none 0 0] 25, own 69 4 (.slice (some ⟨g8, 0, none⟩) X.length c6) X.length (tokv X), pt b3 cz0 25, pt b1 cz0 25] _ := hM
         refine Ends.loop (σ := Nat × Option Addr × Nat) (fun (q, na, nc) (a : Act) (wv : World) => St 303 [(2, .pointer (some ⟨b1, 0, none⟩)), (5, .pointer (some ⟨b3, 0, none⟩)), (6, .slice (some ⟨g8, 0, none⟩) X.length c6), (9, .string (⟨#[75, 78, 65, 80, 83, 65, 67, 75]⟩)), (10, .int .i64 ((n : Int))), (12, .pointer (some ⟨b15, 0, none⟩)), (13, .int .i64 (((2 + q : Nat) : Int))), (14, .slice na ((nmI X 2 q).length) nc), (15, .int .i64 (((M - q : Nat) : Int)))] a ∧ Mem w nof [own 3 1 (.slice na (((nmI X 2 q)).length) nc) (((nmI X 2 q)).length) (((nmI X 2 q)).map (Value.int .i64)), pt b15 #[.int .i64 1, .int .i64 ((n : Int)), .int .i64 0, .slice none 0 0, .slice none 0 0, .slice none 0 0] 25, own 69 4 (.slice (some ⟨g8, 0, none⟩) X.length c6) X.length (tokv X), pt b3 cz0 25, pt b1 cz0 25] wv ∧ (q ≤ M) ∧ (2 + q < X.length) ∧ (∀ r, r < q → nuE (ff r) (X.getD (2 + r) tz) = 0)) (fun (q, na, nc) => M - q) ((0, none, 0)) ⟨hA.sub ((.cons rfl (.cons rfl (.cons rfl (.cons rfl (.cons rfl (.cons rfl (.cons rfl (.cons rfl (.cons rfl .nil)))))))))), hM, (Nat.zero_le _), hj2, (fun r hr => absurd hr (Nat.not_lt_zero r))⟩ ?_
         clear hA hM a
         rintro ⟨q, na, nc⟩ a w16 ⟨hA, hM, hq, hjq, hall⟩ hNext
         refine Ends.seq (Ends.seq (Ends.region ?_))
         refine S.val hA (R.move rfl) rfl ?_; clear hA a; intro a hA
         refine S.val hA (R.gtr rfl rfl) rfl ?_; clear hA a; intro a hA
         refine S.done ?_
         refine Ends.ite hA rfl (fun hc17 => ?_) (fun hc17 => ?_)
         ·
          have hqM : q < M := by omega
          refine Ends.skip (Ends.seq (Ends.block (Ends.seq (Ends.region ?_))))
          refine S.val hA (R.move rfl) rfl ?_; clear hA a; intro a hA
          refine S.val hA (R.move rfl) rfl ?_; clear hA a; intro a hA
          refine S.val hA (R.indexAddr (q := (2 + q) * 4) sl65 rfl rfl (by first | omega | (rw [nmI_len]; omega) | (simp only [nmI_len]; omega)) (by first | omega | (rw [nmI_len]; omega) | (simp only [nmI_len]; omega))) rfl ?_; clear hA a; intro a hA
          refine S.val hA (R.loadA sz69 rfl (hM.tokRow (k := 2) rfl (i := (2 + q)) (by omega)) rfl) rfl ?_; clear hA a; intro a hA
          refine S.alloc hA hM info69 rfl rfl ?_; clear hA hM a; intro b18 w17 hb19 hM a hA
          replace hM : Mem _ _ [pt b18 #[.int .i64 0, .string (⟨#[]⟩), .int .i64 0, .int .i64 0] 69, own 3 1 (.slice na (((nmI X 2 q)).length) nc) (((nmI X 2 q)).length) (((nmI X 2 q)).map (Value.int .i64)), pt b15 #[.int .i64 1, .int .i64 ((n : Int)), .int .i64 0, .slice none 0 0, .slice none 0 0, .slice none 0 0] 25, own 69 4 (.slice (some ⟨g8, 0, none⟩) X.length c6) X.length (tokv X), pt b3 cz0 25, pt b1 cz0 25] _ := hM
          refine S.storeA (k := 0) hA hM sz69 rfl rfl rfl rfl rfl rfl ?_; clear hM
          intro w18 hM
          replace hM : Mem _ _ [pt b18 #[.int .i64 ((X.getD (2 + q) tz).k), .string ((X.getD (2 + q) tz).x), .int .i64 ((X.getD (2 + q) tz).n), .int .i64 ((X.getD (2 + q) tz).a)] 69, own 3 1 (.slice na (((nmI X 2 q)).length) nc) (((nmI X 2 q)).length) (((nmI X 2 q)).map (Value.int .i64)), pt b15 #[.int .i64 1, .int .i64 ((n : Int)), .int .i64 0, .slice none 0 0, .slice none 0 0, .slice none 0 0] 25, own 69 4 (.slice (some ⟨g8, 0, none⟩) X.length c6) X.length (tokv X), pt b3 cz0 25, pt b1 cz0 25] _ := hM
          refine S.done ?_
          replace hA : St 303 [(2, _), (5, _), (6, _), (9, _), (10, _), (12, _), (13, _), (14, _), (15, _), (16, _)] a := hA.sub ((.cons rfl (.cons rfl (.cons rfl (.cons rfl (.cons rfl (.cons rfl (.cons rfl (.cons rfl (.cons rfl (.cons rfl .nil)))))))))))
          refine Ends.seq (Ends.seq (Ends.region ?_))
          refine S.val hA (R.fieldAddr (q := 0) fi69_0 rfl rfl rfl) rfl ?_; clear hA a; intro a hA
          refine S.val hA (R.load sz3 rfl (hM.cell (k := 0) rfl rfl)) rfl ?_; clear hA a; intro a hA
          refine S.val hA (R.eql rfl rfl) rfl ?_; clear hA a; intro a hA
          refine S.done ?_
          refine Ends.ite hA rfl (fun hc20 => ?_) (fun hc20 => ?_)
          ·
           refine Ends.seq ?_
           refine Ends.drawn (Mem w nof [pt b18 #[.int .i64 ((X.getD (2 + q) tz).k), .string ((X.getD (2 + q) tz).x), .int .i64 ((X.getD (2 + q) tz).n), .int .i64 ((X.getD (2 + q) tz).a)] 69, pt b15 #[.int .i64 1, .int .i64 ((n : Int)), .int .i64 0, .slice none 0 0, .slice none 0 0, .slice none 0 0] 25, own 69 4 (.slice (some ⟨g8, 0, none⟩) X.length c6) X.length (tokv X), pt b3 cz0 25]) (.cons (0, true) (.cons (1, true) (.cons (2, true) (.cons (3, false) (.cons (4, true) (.cons (5, true) .nil)))))) 6 mixed (by kernel_rfl) (by kernel_rfl) (by kernel_rfl) ((hM.drop 5).drop 1).drew ?_
           replace hM := hM.drew
           refine D.val hA rfl (by kernel_rfl) (fun _ hM => R.loadA sz25 rfl (hM.range (k := 3) rfl) rfl) rfl ?_; clear hA a; intro a hA
           refine D.valF hA rfl (fun _ => R.fieldAddr (q := 3) fi69_3 rfl rfl rfl) rfl ?_; clear hA a; intro a hA
           refine D.val hA rfl (by kernel_rfl) (fun _ hM => R.load sz3 rfl (hM.cell (k := 0) rfl rfl)) rfl ?_; clear hA a; intro a hA
           refine D.storeA (k := 5) hA hM rfl sz25 rfl rfl rfl rfl rfl rfl ?_; clear hM
           intro w19 hM; refine ⟨fun _ _ => ((hM.drop 5).drop 1), ?_⟩
           replace hM : Mem _ _ [pt b18 #[.int .i64 ((X.getD (2 + q) tz).k), .string ((X.getD (2 + q) tz).x), .int .i64 ((X.getD (2 + q) tz).n), .int .i64 ((X.getD (2 + q) tz).a)] 69, own 3 1 (.slice na (((nmI X 2 q)).length) nc) (((nmI X 2 q)).length) (((nmI X 2 q)).map (Value.int .i64)), pt b15 #[.int .i64 1, .int .i64 ((n : Int)), .int .i64 0, .slice none 0 0, .slice none 0 0, .slice none 0 0] 25, own 69 4 (.slice (some ⟨g8, 0, none⟩) X.length c6) X.length (tokv X), pt b3 cz0 25, pt b1 cz0 25] _ := hM
           refine D.valF hA rfl (fun _ => R.assign rfl) rfl ?_; clear hA a; intro a hA
           refine D.valF hA rfl (fun _ => R.assign rfl) rfl ?_; clear hA a; intro a hA
           refine D.done ?_
           replace hA : St 303 [(2, _), (3, _), (4, _), (5, _), (6, _), (9, _), (10, _), (12, _), (13, _), (14, _), (15, _), (16, _)] a := hA.sub ((.cons rfl (.cons rfl (.cons rfl (.cons rfl (.cons rfl (.cons rfl (.cons rfl (.cons rfl (.cons rfl (.cons rfl (.cons rfl (.cons rfl .nil)))))))))))))
           refine Ends.retC3 (k := 5) Tryd.func29 Tryd.results29 hA hM rfl rfl rfl rfl sz25 rfl ?_
           have hpb : pbR X = (6, (2 + q)) := pb_b hw0 rfl (bod1 hc0 hcn hMv.symm ((nuR_badP (f := ff) hall rfl (by rw [(numR_end (m := 2147483647) hc20).1]; decide) hqM).trans (by rw [(numR_end (m := 2147483647) hc20).1]))) (by decide)
           rw [prs_bad' hse hs0 hpb (by decide)]
           exact ⟨none, 0, none, 0, none, 0, rfl, nilI _, Mem.trans0 hbs hM.nilL⟩
          ·
           have kq3 : ¬ (X.getD (2 + q) tz).k = 3 := hc20
           have hjn := hX.next (2 + q) hjq kq3
           refine Ends.skip (Ends.seq (Ends.seq (Ends.region ?_)))
           refine S.val hA (R.fieldAddr (q := 0) fi69_0 rfl rfl rfl) rfl ?_; clear hA a; intro a hA
           refine S.val hA (R.load sz3 rfl (hM.cell (k := 0) rfl rfl)) rfl ?_; clear hA a; intro a hA
           refine S.val hA (R.eql rfl rfl) rfl ?_; clear hA a; intro a hA
           refine S.done ?_
           replace hA : St 303 [(2, _), (5, _), (6, _), (9, _), (10, _), (12, _), (13, _), (14, _), (15, _), (16, _), (163, _)] a := hA.sub ((.cons rfl (.cons rfl (.cons rfl (.cons rfl (.cons rfl (.cons rfl (.cons rfl (.cons rfl (.cons rfl (.cons rfl (.cons rfl .nil))))))))))))
           refine Ends.ite hA rfl (fun hc21 => ?_) (fun hc21 => ?_)
           ·
            refine Ends.seq ?_
            refine Ends.drawn (Mem w nof [pt b18 #[.int .i64 ((X.getD (2 + q) tz).k), .string ((X.getD (2 + q) tz).x), .int .i64 ((X.getD (2 + q) tz).n), .int .i64 ((X.getD (2 + q) tz).a)] 69, pt b15 #[.int .i64 1, .int .i64 ((n : Int)), .int .i64 0, .slice none 0 0, .slice none 0 0, .slice none 0 0] 25, own 69 4 (.slice (some ⟨g8, 0, none⟩) X.length c6) X.length (tokv X), pt b3 cz0 25]) (.cons (0, true) (.cons (1, true) (.cons (2, true) (.cons (3, false) (.cons (4, true) (.cons (5, true) .nil)))))) 6 mixed (by kernel_rfl) (by kernel_rfl) (by kernel_rfl) ((hM.drop 5).drop 1).drew ?_
            replace hM := hM.drew
            refine D.val hA rfl (by kernel_rfl) (fun _ hM => R.loadA sz25 rfl (hM.range (k := 3) rfl) rfl) rfl ?_; clear hA a; intro a hA
            refine D.valF hA rfl (fun _ => R.fieldAddr (q := 3) fi69_3 rfl rfl rfl) rfl ?_; clear hA a; intro a hA
            refine D.val hA rfl (by kernel_rfl) (fun _ hM => R.load sz3 rfl (hM.cell (k := 0) rfl rfl)) rfl ?_; clear hA a; intro a hA
            refine D.storeA (k := 5) hA hM rfl sz25 rfl rfl rfl rfl rfl rfl ?_; clear hM
            intro w20 hM; refine ⟨fun _ _ => ((hM.drop 5).drop 1), ?_⟩
            replace hM : Mem _ _ [pt b18 #[.int .i64 ((X.getD (2 + q) tz).k), .string ((X.getD (2 + q) tz).x), .int .i64 ((X.getD (2 + q) tz).n), .int .i64 ((X.getD (2 + q) tz).a)] 69, own 3 1 (.slice na (((nmI X 2 q)).length) nc) (((nmI X 2 q)).length) (((nmI X 2 q)).map (Value.int .i64)), pt b15 #[.int .i64 1, .int .i64 ((n : Int)), .int .i64 0, .slice none 0 0, .slice none 0 0, .slice none 0 0] 25, own 69 4 (.slice (some ⟨g8, 0, none⟩) X.length c6) X.length (tokv X), pt b3 cz0 25, pt b1 cz0 25] _ := hM
            refine D.valF hA rfl (fun _ => R.assign rfl) rfl ?_; clear hA a; intro a hA
            refine D.valF hA rfl (fun _ => R.assign rfl) rfl ?_; clear hA a; intro a hA
            refine D.done ?_
            replace hA : St 303 [(2, _), (3, _), (4, _), (5, _), (6, _), (9, _), (10, _), (12, _), (13, _), (14, _), (15, _), (16, _)] a := hA.sub ((.cons rfl (.cons rfl (.cons rfl (.cons rfl (.cons rfl (.cons rfl (.cons rfl (.cons rfl (.cons rfl (.cons rfl (.cons rfl (.cons rfl .nil)))))))))))))
            refine Ends.retC3 (k := 5) Tryd.func29 Tryd.results29 hA hM rfl rfl rfl rfl sz25 rfl ?_
            have hpb : pbR X = (4, (2 + q)) := pb_b hw0 rfl (bod1 hc0 hcn hMv.symm ((nuR_badP (f := ff) hall rfl (by rw [(numR_word (m := 2147483647) kq3 hc21).1]; decide) hqM).trans (by rw [(numR_word (m := 2147483647) kq3 hc21).1]))) (by decide)
            rw [prs_bad' hse hs0 hpb (by decide)]
            exact ⟨none, 0, none, 0, none, 0, rfl, nilI _, Mem.trans0 hbs hM.nilL⟩
           ·
            have kq1 : ¬ (X.getD (2 + q) tz).k = 1 := hc21
            refine Ends.skip (Ends.seq (Ends.seq (Ends.region ?_)))
            refine S.val hA (R.fieldAddr (q := 2) fi69_2 rfl rfl rfl) rfl ?_; clear hA a; intro a hA
            refine S.val hA (R.load sz3 rfl (hM.cell (k := 0) rfl rfl)) rfl ?_; clear hA a; intro a hA
            refine S.val hA (R.gtr rfl rfl) rfl ?_; clear hA a; intro a hA
            refine S.done ?_
            refine Ends.ite hA rfl (fun hc22 => ?_) (fun hc22 => ?_)
            ·
             refine Ends.seq ?_
             refine Ends.drawn (Mem w nof [pt b18 #[.int .i64 ((X.getD (2 + q) tz).k), .string ((X.getD (2 + q) tz).x), .int .i64 ((X.getD (2 + q) tz).n), .int .i64 ((X.getD (2 + q) tz).a)] 69, pt b15 #[.int .i64 1, .int .i64 ((n : Int)), .int .i64 0, .slice none 0 0, .slice none 0 0, .slice none 0 0] 25, own 69 4 (.slice (some ⟨g8, 0, none⟩) X.length c6) X.length (tokv X), pt b3 cz0 25]) (.cons (0, true) (.cons (1, true) (.cons (2, true) (.cons (3, false) (.cons (4, true) (.cons (5, true) .nil)))))) 6 mixed (by kernel_rfl) (by kernel_rfl) (by kernel_rfl) ((hM.drop 5).drop 1).drew ?_
             replace hM := hM.drew
             refine D.val hA rfl (by kernel_rfl) (fun _ hM => R.loadA sz25 rfl (hM.range (k := 3) rfl) rfl) rfl ?_; clear hA a; intro a hA
             refine D.valF hA rfl (fun _ => R.fieldAddr (q := 3) fi69_3 rfl rfl rfl) rfl ?_; clear hA a; intro a hA
             refine D.val hA rfl (by kernel_rfl) (fun _ hM => R.load sz3 rfl (hM.cell (k := 0) rfl rfl)) rfl ?_; clear hA a; intro a hA
             refine D.storeA (k := 5) hA hM rfl sz25 rfl rfl rfl rfl rfl rfl ?_; clear hM
             intro w21 hM; refine ⟨fun _ _ => ((hM.drop 5).drop 1), ?_⟩
             replace hM : Mem _ _ [pt b18 #[.int .i64 ((X.getD (2 + q) tz).k), .string ((X.getD (2 + q) tz).x), .int .i64 ((X.getD (2 + q) tz).n), .int .i64 ((X.getD (2 + q) tz).a)] 69, own 3 1 (.slice na (((nmI X 2 q)).length) nc) (((nmI X 2 q)).length) (((nmI X 2 q)).map (Value.int .i64)), pt b15 #[.int .i64 1, .int .i64 ((n : Int)), .int .i64 0, .slice none 0 0, .slice none 0 0, .slice none 0 0] 25, own 69 4 (.slice (some ⟨g8, 0, none⟩) X.length c6) X.length (tokv X), pt b3 cz0 25, pt b1 cz0 25] _ := hM
             refine D.valF hA rfl (fun _ => R.assign rfl) rfl ?_; clear hA a; intro a hA
             refine D.valF hA rfl (fun _ => R.assign rfl) rfl ?_; clear hA a; intro a hA
             refine D.done ?_
             replace hA : St 303 [(2, _), (3, _), (4, _), (5, _), (6, _), (9, _), (10, _), (12, _), (13, _), (14, _), (15, _), (16, _)] a := hA.sub ((.cons rfl (.cons rfl (.cons rfl (.cons rfl (.cons rfl (.cons rfl (.cons rfl (.cons rfl (.cons rfl (.cons rfl (.cons rfl (.cons rfl .nil)))))))))))))
             refine Ends.retC3 (k := 5) Tryd.func29 Tryd.results29 hA hM rfl rfl rfl rfl sz25 rfl ?_
             have hpb : pbR X = (5, (2 + q)) := pb_b hw0 rfl (bod1 hc0 hcn hMv.symm ((nuR_badP (f := ff) hall rfl (by rw [(numR_big (m := 2147483647) kq3 kq1 hc22).1]; decide) hqM).trans (by rw [(numR_big (m := 2147483647) kq3 kq1 hc22).1]))) (by decide)
             rw [prs_bad' hse hs0 hpb (by decide)]
             exact ⟨none, 0, none, 0, none, 0, rfl, nilI _, Mem.trans0 hbs hM.nilL⟩
            ·
             have hql : ¬ 2147483647 < (X.getD (2 + q) tz).n := hc22
             obtain ⟨hr0, hrn⟩ := numR_ok kq3 kq1 hql
             have hall2 := nuE_step hall rfl hr0 ff_no
             refine Ends.skip (Ends.seq (Ends.seq (Ends.region ?_)))
             refine S.val hA (R.move rfl) rfl ?_; clear hA a; intro a hA
             refine S.val hA (R.ff (R.eqlStr rfl rfl) (by first | decide | simp | omega)) rfl ?_; clear hA a; intro a hA
             refine S.val hA (R.move rfl) rfl ?_; clear hA a; intro a hA
             refine S.no (dj := 175) hA (by kernel_rfl) rfl rfl rfl ?_; clear hA a; intro a hA
             refine S.no (dj := 175) hA (by kernel_rfl) rfl rfl rfl ?_; clear hA a; intro a hA
             refine S.no (dj := 175) hA (by kernel_rfl) rfl rfl rfl ?_; clear hA a; intro a hA
             refine S.no (dj := 175) hA (by kernel_rfl) rfl rfl rfl ?_; clear hA a; intro a hA
             refine S.no (dj := 175) hA (by kernel_rfl) rfl rfl rfl ?_; clear hA a; intro a hA
             refine S.no (dj := 175) hA (by kernel_rfl) rfl rfl rfl ?_; clear hA a; intro a hA
             refine S.val hA (R.pickF rfl rfl) rfl ?_; clear hA a; intro a hA
             refine S.val hA (R.move rfl) rfl ?_; clear hA a; intro a hA
             refine S.no (dj := 183) hA (by kernel_rfl) rfl rfl rfl ?_; clear hA a; intro a hA
             refine S.no (dj := 183) hA (by kernel_rfl) rfl rfl rfl ?_; clear hA a; intro a hA
             refine S.no (dj := 183) hA (by kernel_rfl) rfl rfl rfl ?_; clear hA a; intro a hA
             refine S.val hA (R.pickF rfl rfl) rfl ?_; clear hA a; intro a hA
             refine S.done ?_
             replace hA : St 303 [(2, _), (5, _), (6, _), (9, _), (10, _), (12, _), (13, _), (14, _), (15, _), (16, _), (187, _)] a := hA.sub ((.cons rfl (.cons rfl (.cons rfl (.cons rfl (.cons rfl (.cons rfl (.cons rfl (.cons rfl (.cons rfl (.cons rfl (.cons rfl .nil))))))))))))
             refine Ends.condF hA rfl ?_
             refine Ends.skip (Ends.seq (Ends.region ?_))
             refine S.val hA (R.move rfl) rfl ?_; clear hA a; intro a hA
             refine S.val hA (R.fieldAddr (q := 2) fi69_2 rfl rfl rfl) rfl ?_; clear hA a; intro a hA
             refine S.val hA (R.load sz3 rfl (hM.cell (k := 0) rfl rfl)) rfl ?_; clear hA a; intro a hA
             refine S.buildSl (cells := #[.int .i64 ((X.getD (2 + q) tz).n)]) hA hM Tryd.underlying22 info3 rfl rfl rfl rfl (by kernel_rfl) rfl ?_; clear hA hM a; intro b23 w22 hb24 hM a hA
             replace hM : Mem _ _ [pt b23 #[.int .i64 ((X.getD (2 + q) tz).n)] 3, pt b18 #[.int .i64 ((X.getD (2 + q) tz).k), .string ((X.getD (2 + q) tz).x), .int .i64 ((X.getD (2 + q) tz).n), .int .i64 ((X.getD (2 + q) tz).a)] 69, own 3 1 (.slice na (((nmI X 2 q)).length) nc) (((nmI X 2 q)).length) (((nmI X 2 q)).map (Value.int .i64)), pt b15 #[.int .i64 1, .int .i64 ((n : Int)), .int .i64 0, .slice none 0 0, .slice none 0 0, .slice none 0 0] 25, own 69 4 (.slice (some ⟨g8, 0, none⟩) X.length c6) X.length (tokv X), pt b3 cz0 25, pt b1 cz0 25] _ := hM
             refine S.append (k := 2) (k2 := 0) hA hM rfl rfl Tryd.underlying22 info3 rfl rfl rfl rfl rfl rfl rfl rfl rfl (by first | (rw [nmI_len]; first | (unfold maxLen; omega) | (show (q + 1) * 8 ≤ 140737488355328; omega)) | (rw [itI_len]; first | (unfold maxLen; omega) | (show (k + 1) * 8 ≤ 140737488355328; omega)) | (rw [hlr]; first | (unfold maxLen; omega) | (show (r + 1) * 24 ≤ 140737488355328; omega))) (by first | (rw [nmI_len]; first | (unfold maxLen; omega) | (show (q + 1) * 8 ≤ 140737488355328; omega)) | (rw [itI_len]; first | (unfold maxLen; omega) | (show (k + 1) * 8 ≤ 140737488355328; omega)) | (rw [hlr]; first | (unfold maxLen; omega) | (show (r + 1) * 24 ≤ 140737488355328; omega))) rfl ?_; clear hA hM a; intro a25 c26 w23 hM a hA
             replace hM : Mem _ _ [pt b23 #[.int .i64 ((X.getD (2 + q) tz).n)] 3, pt b18 #[.int .i64 ((X.getD (2 + q) tz).k), .string ((X.getD (2 + q) tz).x), .int .i64 ((X.getD (2 + q) tz).n), .int .i64 ((X.getD (2 + q) tz).a)] 69, own 3 1 (.slice a25 ((((nmI X 2 q)).length) + 1) c26) ((((nmI X 2 q)).length) + 1) (((nmI X 2 q)).map (Value.int .i64) ++ [.int .i64 ((X.getD (2 + q) tz).n)]), pt b15 #[.int .i64 1, .int .i64 ((n : Int)), .int .i64 0, .slice none 0 0, .slice none 0 0, .slice none 0 0] 25, own 69 4 (.slice (some ⟨g8, 0, none⟩) X.length c6) X.length (tokv X), pt b3 cz0 25, pt b1 cz0 25] _ := hM
             have hl27 : (((nmI X 2 q)).length) + 1 = ((nmI X 2 q) ++ [(X.getD (2 + q) tz).n]).length := by simp
             rw [hl27, show ((nmI X 2 q)).map (Value.int .i64) ++ [.int .i64 ((X.getD (2 + q) tz).n)] = ((nmI X 2 q) ++ [(X.getD (2 + q) tz).n]).map (Value.int .i64) by simp] at hM; rw [hl27] at hA
             clear hl27
             replace hM := hM.drop 0
             replace hM : Mem _ _ [pt b18 #[.int .i64 ((X.getD (2 + q) tz).k), .string ((X.getD (2 + q) tz).x), .int .i64 ((X.getD (2 + q) tz).n), .int .i64 ((X.getD (2 + q) tz).a)] 69, own 3 1 (.slice a25 ((((nmI X 2 q) ++ [(X.getD (2 + q) tz).n])).length) c26) ((((nmI X 2 q) ++ [(X.getD (2 + q) tz).n])).length) ((((nmI X 2 q) ++ [(X.getD (2 + q) tz).n])).map (Value.int .i64)), pt b15 #[.int .i64 1, .int .i64 ((n : Int)), .int .i64 0, .slice none 0 0, .slice none 0 0, .slice none 0 0] 25, own 69 4 (.slice (some ⟨g8, 0, none⟩) X.length c6) X.length (tokv X), pt b3 cz0 25, pt b1 cz0 25] _ := hM
             refine S.val hA (R.assign rfl) rfl ?_; clear hA a; intro a hA
             refine S.done ?_
             replace hA : St 303 [(2, _), (5, _), (6, _), (9, _), (10, _), (12, _), (13, _), (14, _), (15, _)] a := hA.sub ((.cons rfl (.cons rfl (.cons rfl (.cons rfl (.cons rfl (.cons rfl (.cons rfl (.cons rfl (.cons rfl .nil))))))))))
             refine Ends.region ?_
             refine S.val hA (R.move rfl) rfl ?_; clear hA a; intro a hA
             refine S.val hA (R.addI rfl rfl (r := ((2 + (q + 1) : Nat) : Int)) (by first | omega | (rw [nmI_len]; omega) | (simp only [nmI_len]; omega)) (by first | omega | (rw [nmI_len]; omega) | (simp only [nmI_len]; omega))) rfl ?_; clear hA a; intro a hA
             refine S.val hA (R.assign rfl) rfl ?_; clear hA a; intro a hA
             refine S.done ?_
             refine Ends.inBlock (Ends.region ?_)
             refine S.val hA (R.move rfl) rfl ?_; clear hA a; intro a hA
             refine S.val hA (R.subI rfl rfl (r := ((M - (q + 1) : Nat) : Int)) (by first | omega | (rw [nmI_len]; omega) | (simp only [nmI_len]; omega)) (by first | omega | (rw [nmI_len]; omega) | (simp only [nmI_len]; omega))) rfl ?_; clear hA a; intro a hA
             refine S.val hA (R.assign rfl) rfl ?_; clear hA a; intro a hA
             refine S.done ?_
             replace hA : St 303 [(2, _), (5, _), (6, _), (9, _), (10, _), (12, _), (13, _), (14, _), (15, _)] a := hA.sub ((.cons rfl (.cons rfl (.cons rfl (.cons rfl (.cons rfl (.cons rfl (.cons rfl (.cons rfl (.cons rfl .nil))))))))))
             replace hM := hM.front (k := 1) rfl
             replace hM : Mem _ _ [own 3 1 (.slice a25 ((((nmI X 2 q) ++ [(X.getD (2 + q) tz).n])).length) c26) ((((nmI X 2 q) ++ [(X.getD (2 + q) tz).n])).length) ((((nmI X 2 q) ++ [(X.getD (2 + q) tz).n])).map (Value.int .i64)), pt b18 #[.int .i64 ((X.getD (2 + q) tz).k), .string ((X.getD (2 + q) tz).x), .int .i64 ((X.getD (2 + q) tz).n), .int .i64 ((X.getD (2 + q) tz).a)] 69, pt b15 #[.int .i64 1, .int .i64 ((n : Int)), .int .i64 0, .slice none 0 0, .slice none 0 0, .slice none 0 0] 25, own 69 4 (.slice (some ⟨g8, 0, none⟩) X.length c6) X.length (tokv X), pt b3 cz0 25, pt b1 cz0 25] _ := hM
             replace hM := hM.front (k := 5) rfl
             replace hM := hM.front (k := 5) rfl
             replace hM := hM.front (k := 5) rfl
             replace hM := hM.front (k := 5) rfl
             replace hM := hM.front (k := 4) rfl
             replace hM : Mem _ _ [own 3 1 (.slice a25 ((((nmI X 2 q) ++ [(X.getD (2 + q) tz).n])).length) c26) ((((nmI X 2 q) ++ [(X.getD (2 + q) tz).n])).length) ((((nmI X 2 q) ++ [(X.getD (2 + q) tz).n])).map (Value.int .i64)), pt b15 #[.int .i64 1, .int .i64 ((n : Int)), .int .i64 0, .slice none 0 0, .slice none 0 0, .slice none 0 0] 25, own 69 4 (.slice (some ⟨g8, 0, none⟩) X.length c6) X.length (tokv X), pt b3 cz0 25, pt b1 cz0 25, pt b18 #[.int .i64 ((X.getD (2 + q) tz).k), .string ((X.getD (2 + q) tz).x), .int .i64 ((X.getD (2 + q) tz).n), .int .i64 ((X.getD (2 + q) tz).a)] 69] _ := hM
             replace hM := hM.firstN 5
             rw [show ((nmI X 2 q) ++ [(X.getD (2 + q) tz).n]) = nmI X 2 (q + 1) from nmI_snoc X 2 q] at hM hA
             exact hNext ((q + 1, a25, c26)) _ _ ((by show M - (q + 1) < M - q; omega)) ⟨hA.sub ((.cons rfl (.cons rfl (.cons rfl (.cons rfl (.cons rfl (.cons rfl (.cons rfl (.cons rfl (.cons rfl .nil)))))))))), hM, (by omega), hjn, hall2⟩
         ·
          have hqM : q = M := by omega
          subst hqM
          refine Ends.exit rfl ?_
          refine Ends.seq (Ends.seq (Ends.region ?_))
          refine S.val hA (R.move rfl) rfl ?_; clear hA a; intro a hA
          refine S.val hA (R.move rfl) rfl ?_; clear hA a; intro a hA
          refine S.val hA (R.indexAddr (q := (2 + q) * 4) sl65 rfl rfl (by first | omega | (rw [nmI_len]; omega) | (simp only [nmI_len]; omega)) (by first | omega | (rw [nmI_len]; omega) | (simp only [nmI_len]; omega))) rfl ?_; clear hA a; intro a hA
          refine S.val hA (R.fieldAddr (q := (2 + q) * 4 + 0) fi69_0 rfl rfl rfl) rfl ?_; clear hA a; intro a hA
          refine S.val hA (R.load sz3 rfl (hM.tokRow (k := 2) rfl (i := (2 + q)) (by omega) 0 _ rfl)) rfl ?_; clear hA a; intro a hA
          refine S.val hA (R.neq rfl rfl) rfl ?_; clear hA a; intro a hA
          refine S.done ?_
          replace hA : St 303 [(2, _), (5, _), (6, _), (9, _), (10, _), (12, _), (13, _), (14, _), (203, _)] a := hA.sub ((.cons rfl (.cons rfl (.cons rfl (.cons rfl (.cons rfl (.cons rfl (.cons rfl (.cons rfl (.cons rfl .nil))))))))))
          refine Ends.ite hA rfl (fun hc28 => ?_) (fun hc28 => ?_)
          ·
           refine Ends.seq ?_
           refine Ends.drawn (Mem w nof [pt b15 #[.int .i64 1, .int .i64 ((n : Int)), .int .i64 0, .slice none 0 0, .slice none 0 0, .slice none 0 0] 25, own 69 4 (.slice (some ⟨g8, 0, none⟩) X.length c6) X.length (tokv X), pt b3 cz0 25]) (.cons (0, true) (.cons (1, true) (.cons (2, true) (.cons (3, true) (.cons (4, true) (.cons (5, true) (.cons (6, false) (.cons (7, true) (.cons (8, true) .nil))))))))) 9 mixed (by kernel_rfl) (by kernel_rfl) (by kernel_rfl) ((hM.drop 4).drop 0).drew ?_
           replace hM := hM.drew
           refine D.val hA rfl (by kernel_rfl) (fun _ hM => R.loadA sz25 rfl (hM.range (k := 2) rfl) rfl) rfl ?_; clear hA a; intro a hA
           refine D.valF hA rfl (fun _ => R.move rfl) rfl ?_; clear hA a; intro a hA
           refine D.valF hA rfl (fun _ => R.move rfl) rfl ?_; clear hA a; intro a hA
           refine D.valF hA rfl (fun _ => R.indexAddr (q := (2 + q) * 4) sl65 rfl rfl (by first | omega | (rw [nmI_len]; omega) | (simp only [nmI_len]; omega)) (by first | omega | (rw [nmI_len]; omega) | (simp only [nmI_len]; omega))) rfl ?_; clear hA a; intro a hA
           refine D.valF hA rfl (fun _ => R.fieldAddr (q := (2 + q) * 4 + 3) fi69_3 rfl rfl rfl) rfl ?_; clear hA a; intro a hA
           refine D.val hA rfl (by kernel_rfl) (fun _ hM => R.load sz3 rfl (hM.tokRow (k := 1) rfl (i := (2 + q)) (by omega) 3 _ rfl)) rfl ?_; clear hA a; intro a hA
           refine D.storeA (k := 4) hA hM rfl sz25 rfl rfl rfl rfl rfl rfl ?_; clear hM
           intro w24 hM; refine ⟨fun _ _ => ((hM.drop 4).drop 0), ?_⟩
           replace hM : Mem _ _ [own 3 1 (.slice na (((nmI X 2 q)).length) nc) (((nmI X 2 q)).length) (((nmI X 2 q)).map (Value.int .i64)), pt b15 #[.int .i64 1, .int .i64 ((n : Int)), .int .i64 0, .slice none 0 0, .slice none 0 0, .slice none 0 0] 25, own 69 4 (.slice (some ⟨g8, 0, none⟩) X.length c6) X.length (tokv X), pt b3 cz0 25, pt b1 cz0 25] _ := hM
           refine D.valF hA rfl (fun _ => R.assign rfl) rfl ?_; clear hA a; intro a hA
           refine D.valF hA rfl (fun _ => R.assign rfl) rfl ?_; clear hA a; intro a hA
           refine D.done ?_
           replace hA : St 303 [(2, _), (3, _), (4, _), (9, _), (10, _), (12, _), (14, _)] a := hA.sub ((.cons rfl (.cons rfl (.cons rfl (.cons rfl (.cons rfl (.cons rfl (.cons rfl .nil))))))))
           refine Ends.retC3 (k := 4) Tryd.func29 Tryd.results29 hA hM rfl rfl rfl rfl sz25 rfl ?_
           have hpb : pbR X = (7, (2 + q)) := (pb_e hw0 rfl (bod1 hc0 hcn hMv.symm (nuR_ok hall))).trans (by rw [show endR (X.getD (2 + q) tz) = 7 from if_pos hc28])
           rw [prs_bad' hse hs0 hpb (by decide)]
           exact ⟨none, 0, none, 0, none, 0, rfl, nilI _, Mem.trans0 hbs hM.nilL⟩
          ·
           have hpbE : pbR X = (0, 2 + q) := (pb_e hw0 rfl (bod1 hc0 hcn hMv.symm (nuR_ok hall))).trans (by rw [show endR (X.getD (2 + q) tz) = 0 from if_neg hc28])
           refine Ends.skip (Ends.seq (Ends.seq (Ends.region ?_)))
           refine S.val hA (R.fieldAddr (q := 0) fi25_0 rfl rfl rfl) rfl ?_; clear hA a; intro a hA
           refine S.val hA (R.load sz3 rfl (hM.cell (k := 1) rfl rfl)) rfl ?_; clear hA a; intro a hA
           refine S.val hA (R.tt (R.eql rfl rfl) (by first | decide | simp | omega)) rfl ?_; clear hA a; intro a hA
           refine S.done ?_
           replace hA : St 303 [(2, _), (9, _), (10, _), (12, _), (14, _), (212, _)] a := hA.sub ((.cons rfl (.cons rfl (.cons rfl (.cons rfl (.cons rfl (.cons rfl .nil)))))))
           refine Ends.condT hA rfl ?_
           refine Ends.seq (Ends.region ?_)
           refine S.val hA (R.move rfl) rfl ?_; clear hA a; intro a hA
           refine S.val hA (R.idxI (hM.rsl (k := 0) rfl) (j := 0) sl22 rfl rfl (by first | omega | (rw [nmI_len]; omega) | (simp only [nmI_len]; omega)) (rfl)) rfl ?_; clear hA a; intro a hA
           refine S.val hA (R.loadI (hM.rsl (k := 0) rfl) sz3 rfl (by first | omega | (rw [nmI_len]; omega) | (simp only [nmI_len]; omega))) rfl ?_; clear hA a; intro a hA
           refine S.val hA (R.fieldAddr (q := 2) fi25_2 rfl rfl rfl) rfl ?_; clear hA a; intro a hA
           refine S.store (k := 1) hA hM sz3 rfl rfl rfl rfl rfl ?_; clear hM
           intro w25 hM
           replace hM : Mem _ _ [own 3 1 (.slice na (((nmI X 2 q)).length) nc) (((nmI X 2 q)).length) (((nmI X 2 q)).map (Value.int .i64)), pt b15 #[.int .i64 1, .int .i64 ((n : Int)), .int .i64 (((nmI X 2 q)).getD 0 0), .slice none 0 0, .slice none 0 0, .slice none 0 0] 25, own 69 4 (.slice (some ⟨g8, 0, none⟩) X.length c6) X.length (tokv X), pt b3 cz0 25, pt b1 cz0 25] _ := hM
           refine S.done ?_
           rw [show ((nmI X 2 q)).getD 0 0 = (X.getD 2 tz).n from nmI_at (by omega)] at hM
           replace hM : Mem _ _ [own 3 1 (.slice na (((nmI X 2 q)).length) nc) (((nmI X 2 q)).length) (((nmI X 2 q)).map (Value.int .i64)), pt b15 #[.int .i64 1, .int .i64 ((n : Int)), .int .i64 ((X.getD 2 tz).n), .slice none 0 0, .slice none 0 0, .slice none 0 0] 25, own 69 4 (.slice (some ⟨g8, 0, none⟩) X.length c6) X.length (tokv X), pt b3 cz0 25, pt b1 cz0 25] _ := hM
           replace hA : St 303 [(2, _), (9, _), (10, _), (12, _), (14, _)] a := hA.sub ((.cons rfl (.cons rfl (.cons rfl (.cons rfl (.cons rfl .nil))))))
           refine Ends.seq (Ends.seq (Ends.region ?_))
           refine S.val hA (R.assign rfl) rfl ?_; clear hA a; intro a hA
           refine S.done ?_
           refine Ends.block ?_
           replace hM := (hM.ownNil 3 1).ownNil 3 1
           replace hM : Mem _ _ [own 3 1 (.slice none (((itI X 3 0)).length) 0) (((itI X 3 0)).length) (((itI X 3 0)).map (Value.int .i64)), own 3 1 (.slice none (((itI X 4 0)).length) 0) (((itI X 4 0)).length) (((itI X 4 0)).map (Value.int .i64)), own 3 1 (.slice na (((nmI X 2 q)).length) nc) (((nmI X 2 q)).length) (((nmI X 2 q)).map (Value.int .i64)), pt b15 #[.int .i64 1, .int .i64 ((n : Int)), .int .i64 ((X.getD 2 tz).n), .slice none ((itI X 3 0).length) 0, .slice none ((itI X 4 0).length) 0, .slice none 0 0] 25, own 69 4 (.slice (some ⟨g8, 0, none⟩) X.length c6) X.length (tokv X), pt b3 cz0 25, pt b1 cz0 25] _ := hM
           refine Ends.loop (σ := Nat × Option Addr × Nat × Option Addr × Nat) (fun (k, wa, wc, va, vc) (a : Act) (wv : World) => St 303 [(2, .pointer (some ⟨b1, 0, none⟩)), (9, .string (⟨#[75, 78, 65, 80, 83, 65, 67, 75]⟩)), (10, .int .i64 ((n : Int))), (12, .pointer (some ⟨b15, 0, none⟩)), (14, .slice na ((nmI X 2 q).length) nc), (17, .int .i64 ((k : Int)))] a ∧ Mem w nof [own 3 1 (.slice wa (((itI X 3 k)).length) wc) (((itI X 3 k)).length) (((itI X 3 k)).map (Value.int .i64)), own 3 1 (.slice va (((itI X 4 k)).length) vc) (((itI X 4 k)).length) (((itI X 4 k)).map (Value.int .i64)), own 3 1 (.slice na (((nmI X 2 q)).length) nc) (((nmI X 2 q)).length) (((nmI X 2 q)).map (Value.int .i64)), pt b15 #[.int .i64 1, .int .i64 ((n : Int)), .int .i64 ((X.getD 2 tz).n), .slice wa ((itI X 3 k).length) wc, .slice va ((itI X 4 k).length) vc, .slice none 0 0] 25, own 69 4 (.slice (some ⟨g8, 0, none⟩) X.length c6) X.length (tokv X), pt b3 cz0 25, pt b1 cz0 25] wv ∧ (k ≤ n)) (fun (k, wa, wc, va, vc) => n - k) ((0, none, 0, none, 0)) ⟨hA.sub ((.cons rfl (.cons rfl (.cons rfl (.cons rfl (.cons rfl (.cons rfl .nil))))))), hM, (Nat.zero_le _)⟩ ?_
           clear hA hM a
           rintro ⟨k, wa, wc, va, vc⟩ a w26 ⟨hA, hM, hk⟩ hNext1
           refine Ends.seq (Ends.seq (Ends.region ?_))
           refine S.val hA (R.move rfl) rfl ?_; clear hA a; intro a hA
           refine S.val hA (R.move rfl) rfl ?_; clear hA a; intro a hA
           refine S.val hA (R.lss rfl rfl) rfl ?_; clear hA a; intro a hA
           refine S.done ?_
           refine Ends.ite hA rfl (fun hc29 => ?_) (fun hc29 => ?_)
           ·
            have hkn : k < n := by omega
            refine Ends.skip (Ends.seq (Ends.block ?_))
            refine Ends.drawn (Mem w nof [own 3 1 (.slice na (((nmI X 2 q)).length) nc) (((nmI X 2 q)).length) (((nmI X 2 q)).map (Value.int .i64)), pt b15 #[.int .i64 1, .int .i64 ((n : Int)), .int .i64 ((X.getD 2 tz).n), .slice wa ((itI X 3 k).length) wc, .slice va ((itI X 4 k).length) vc, .slice none 0 0] 25, pt b3 cz0 25]) (.cons (0, true) (.cons (1, true) (.cons (2, true) (.cons (3, true) (.cons (4, true) (.cons (5, true) (.cons (6, true) (.cons (7, true) (.cons (10, true) (.cons (11, true) (.cons (12, true) (.cons (13, true) (.cons (14, true) (.cons (15, true) (.cons (16, true) (.fork 8 17 (.fork 9 17 (.cons (20, true) (.cons (17, false) (.cons (18, false) (.cons (19, false) (.cons (21, false) (.cons (22, true) (.cons (23, false) .nil))))))) (.fork 9 18 (.cons (20, true) (.cons (18, false) (.cons (19, false) (.cons (21, false) (.cons (22, true) (.cons (23, false) .nil)))))) (.cons (9, false) (.cons (20, true) (.cons (19, false) (.cons (21, false) (.cons (22, true) (.cons (23, false) .nil)))))))) (.fork 8 18 (.fork 9 18 (.cons (20, true) (.cons (18, false) (.cons (19, false) (.cons (21, false) (.cons (22, true) (.cons (23, false) .nil)))))) (.cons (9, false) (.cons (20, true) (.cons (19, false) (.cons (21, false) (.cons (22, true) (.cons (23, false) .nil))))))) (.cons (8, false) (.cons (9, false) (.cons (20, true) (.cons (19, false) (.cons (21, false) (.cons (22, true) (.cons (23, false) .nil)))))))))))))))))))))))) 21 mixed (by kernel_rfl) (by kernel_rfl) (by kernel_rfl) ((((hM.drop 6).drop 4).drop 1).drop 0).drew ?_
            replace hM := hM.drew
            refine D.valF hA rfl (fun _ => R.fieldAddr (q := 3) fi25_3 rfl rfl rfl) rfl ?_; clear hA a; intro a hA
            refine D.val hA rfl (by kernel_rfl) (fun _ hM => R.load sz22 rfl (hM.cell (k := 1) rfl rfl)) rfl ?_; clear hA a; intro a hA
            refine D.valF hA rfl (fun _ => R.move rfl) rfl ?_; clear hA a; intro a hA
            refine D.valF hA rfl (fun _ => R.move rfl) rfl ?_; clear hA a; intro a hA
            refine D.valF hA rfl (fun _ => R.mulI rfl rfl (r := 2 * ((k : Int))) rfl (by first | omega | (rw [nmI_len]; omega) | (simp only [nmI_len]; omega))) rfl ?_; clear hA a; intro a hA
            refine D.valF hA rfl (fun _ => R.addI rfl rfl (r := 1 + (2 * ((k : Int)))) rfl (by first | omega | (rw [nmI_len]; omega) | (simp only [nmI_len]; omega))) rfl ?_; clear hA a; intro a hA
            refine D.valF hA rfl (fun _ => R.idxI (hM.rsl (k := 2) rfl) (j := (1 + 2 * k)) sl22 rfl rfl (by first | omega | (rw [nmI_len]; omega) | (simp only [nmI_len]; omega)) (by first | omega | (rw [nmI_len]; omega) | (simp only [nmI_len]; omega))) rfl ?_; clear hA a; intro a hA
            refine D.val hA rfl (by kernel_rfl) (fun _ hM => R.loadI (hM.rsl (k := 0) rfl) sz3 rfl (by first | omega | (rw [nmI_len]; omega) | (simp only [nmI_len]; omega))) rfl ?_; clear hA a; intro a hA
            refine D.valF hA rfl (fun _ => R.fieldAddr (q := 4) fi25_4 rfl rfl rfl) rfl ?_; clear hA a; intro a hA
            refine D.val hA rfl (by kernel_rfl) (fun _ hM => R.load sz22 rfl (hM.cell (k := 1) rfl rfl)) rfl ?_; clear hA a; intro a hA
            refine D.valF hA rfl (fun _ => R.move rfl) rfl ?_; clear hA a; intro a hA
            refine D.valF hA rfl (fun _ => R.move rfl) rfl ?_; clear hA a; intro a hA
            refine D.valF hA rfl (fun _ => R.mulI rfl rfl (r := 2 * ((k : Int))) rfl (by first | omega | (rw [nmI_len]; omega) | (simp only [nmI_len]; omega))) rfl ?_; clear hA a; intro a hA
            refine D.valF hA rfl (fun _ => R.addI rfl rfl (r := 2 + (2 * ((k : Int)))) rfl (by first | omega | (rw [nmI_len]; omega) | (simp only [nmI_len]; omega))) rfl ?_; clear hA a; intro a hA
            refine D.valF hA rfl (fun _ => R.idxI (hM.rsl (k := 2) rfl) (j := (2 + 2 * k)) sl22 rfl rfl (by first | omega | (rw [nmI_len]; omega) | (simp only [nmI_len]; omega)) (by first | omega | (rw [nmI_len]; omega) | (simp only [nmI_len]; omega))) rfl ?_; clear hA a; intro a hA
            refine D.fork rfl rfl ?_ ?_
            ·
             refine D.buildSl (cells := #[.int .i64 (((nmI X 2 q)).getD ((1 + 2 * k)) 0)]) hA hM rfl Tryd.underlying22 info3 rfl rfl rfl rfl (by kernel_rfl) rfl ?_; clear hA hM a; intro b30 w27 hb31 hM; refine ⟨(fun hM => ((((hM.drop 6).drop 4).drop 1).drop 0)) hM.tail, fun a hA => ?_⟩
             replace hM : Mem _ _ [pt b30 #[.int .i64 (((nmI X 2 q)).getD ((1 + 2 * k)) 0)] 3, own 3 1 (.slice wa (((itI X 3 k)).length) wc) (((itI X 3 k)).length) (((itI X 3 k)).map (Value.int .i64)), own 3 1 (.slice va (((itI X 4 k)).length) vc) (((itI X 4 k)).length) (((itI X 4 k)).map (Value.int .i64)), own 3 1 (.slice na (((nmI X 2 q)).length) nc) (((nmI X 2 q)).length) (((nmI X 2 q)).map (Value.int .i64)), pt b15 #[.int .i64 1, .int .i64 ((n : Int)), .int .i64 ((X.getD 2 tz).n), .slice wa ((itI X 3 k).length) wc, .slice va ((itI X 4 k).length) vc, .slice none 0 0] 25, own 69 4 (.slice (some ⟨g8, 0, none⟩) X.length c6) X.length (tokv X), pt b3 cz0 25, pt b1 cz0 25] _ := hM
             refine D.fork rfl rfl ?_ ?_
             ·
              refine D.append (k := 1) (k2 := 0) hA hM rfl rfl rfl Tryd.underlying22 info3 rfl rfl rfl rfl rfl rfl rfl rfl rfl (by first | (rw [nmI_len]; first | (unfold maxLen; omega) | (show (q + 1) * 8 ≤ 140737488355328; omega)) | (rw [itI_len]; first | (unfold maxLen; omega) | (show (k + 1) * 8 ≤ 140737488355328; omega)) | (rw [hlr]; first | (unfold maxLen; omega) | (show (r + 1) * 24 ≤ 140737488355328; omega))) (by first | (rw [nmI_len]; first | (unfold maxLen; omega) | (show (q + 1) * 8 ≤ 140737488355328; omega)) | (rw [itI_len]; first | (unfold maxLen; omega) | (show (k + 1) * 8 ≤ 140737488355328; omega)) | (rw [hlr]; first | (unfold maxLen; omega) | (show (r + 1) * 24 ≤ 140737488355328; omega))) rfl ?_; clear hA hM a; intro a32 c33 w28 hM
              replace hM : Mem _ _ [pt b30 #[.int .i64 (((nmI X 2 q)).getD ((1 + 2 * k)) 0)] 3, own 3 1 (.slice a32 ((((itI X 3 k)).length) + 1) c33) ((((itI X 3 k)).length) + 1) (((itI X 3 k)).map (Value.int .i64) ++ [.int .i64 (((nmI X 2 q)).getD ((1 + 2 * k)) 0)]), own 3 1 (.slice va (((itI X 4 k)).length) vc) (((itI X 4 k)).length) (((itI X 4 k)).map (Value.int .i64)), own 3 1 (.slice na (((nmI X 2 q)).length) nc) (((nmI X 2 q)).length) (((nmI X 2 q)).map (Value.int .i64)), pt b15 #[.int .i64 1, .int .i64 ((n : Int)), .int .i64 ((X.getD 2 tz).n), .slice wa ((itI X 3 k).length) wc, .slice va ((itI X 4 k).length) vc, .slice none 0 0] 25, own 69 4 (.slice (some ⟨g8, 0, none⟩) X.length c6) X.length (tokv X), pt b3 cz0 25, pt b1 cz0 25] _ := hM
              have hl34 : (((itI X 3 k)).length) + 1 = ((itI X 3 k) ++ [((nmI X 2 q)).getD ((1 + 2 * k)) 0]).length := by simp
              rw [hl34, show ((itI X 3 k)).map (Value.int .i64) ++ [.int .i64 (((nmI X 2 q)).getD ((1 + 2 * k)) 0)] = ((itI X 3 k) ++ [((nmI X 2 q)).getD ((1 + 2 * k)) 0]).map (Value.int .i64) by simp] at hM
              replace hM := hM.drop 0
              replace hM : Mem _ _ [own 3 1 (.slice a32 ((((itI X 3 k) ++ [((nmI X 2 q)).getD ((1 + 2 * k)) 0])).length) c33) ((((itI X 3 k) ++ [((nmI X 2 q)).getD ((1 + 2 * k)) 0])).length) ((((itI X 3 k) ++ [((nmI X 2 q)).getD ((1 + 2 * k)) 0])).map (Value.int .i64)), own 3 1 (.slice va (((itI X 4 k)).length) vc) (((itI X 4 k)).length) (((itI X 4 k)).map (Value.int .i64)), own 3 1 (.slice na (((nmI X 2 q)).length) nc) (((nmI X 2 q)).length) (((nmI X 2 q)).map (Value.int .i64)), pt b15 #[.int .i64 1, .int .i64 ((n : Int)), .int .i64 ((X.getD 2 tz).n), .slice wa ((itI X 3 k).length) wc, .slice va ((itI X 4 k).length) vc, .slice none 0 0] 25, own 69 4 (.slice (some ⟨g8, 0, none⟩) X.length c6) X.length (tokv X), pt b3 cz0 25, pt b1 cz0 25] _ := hM
              refine ⟨((((hM.drop 6).drop 4).drop 1).drop 0), fun a hA => ?_⟩; rw [hl34] at hA; clear hl34
              refine D.valF hA rfl (fun _ => R.fieldAddr (q := 3) fi25_3 rfl rfl rfl) rfl ?_; clear hA a; intro a hA
              refine D.eff hA rfl (R.loadI (hM.rsl (k := 2) rfl) sz3 rfl (by first | omega | (rw [nmI_len]; omega) | (simp only [nmI_len]; omega))) rfl ((((hM.drop 6).drop 4).drop 1).drop 0) ?_; clear hA a; intro a hA
              refine D.buildSl (cells := #[.int .i64 (((nmI X 2 q)).getD ((2 + 2 * k)) 0)]) hA hM rfl Tryd.underlying22 info3 rfl rfl rfl rfl (by kernel_rfl) rfl ?_; clear hA hM a; intro b35 w29 hb36 hM; refine ⟨(fun hM => ((((hM.drop 6).drop 4).drop 1).drop 0)) hM.tail, fun a hA => ?_⟩
              replace hM : Mem _ _ [pt b35 #[.int .i64 (((nmI X 2 q)).getD ((2 + 2 * k)) 0)] 3, own 3 1 (.slice a32 ((((itI X 3 k) ++ [((nmI X 2 q)).getD ((1 + 2 * k)) 0])).length) c33) ((((itI X 3 k) ++ [((nmI X 2 q)).getD ((1 + 2 * k)) 0])).length) ((((itI X 3 k) ++ [((nmI X 2 q)).getD ((1 + 2 * k)) 0])).map (Value.int .i64)), own 3 1 (.slice va (((itI X 4 k)).length) vc) (((itI X 4 k)).length) (((itI X 4 k)).map (Value.int .i64)), own 3 1 (.slice na (((nmI X 2 q)).length) nc) (((nmI X 2 q)).length) (((nmI X 2 q)).map (Value.int .i64)), pt b15 #[.int .i64 1, .int .i64 ((n : Int)), .int .i64 ((X.getD 2 tz).n), .slice wa ((itI X 3 k).length) wc, .slice va ((itI X 4 k).length) vc, .slice none 0 0] 25, own 69 4 (.slice (some ⟨g8, 0, none⟩) X.length c6) X.length (tokv X), pt b3 cz0 25, pt b1 cz0 25] _ := hM
              refine D.append (k := 2) (k2 := 0) hA hM rfl rfl rfl Tryd.underlying22 info3 rfl rfl rfl rfl rfl rfl rfl rfl rfl (by first | (rw [nmI_len]; first | (unfold maxLen; omega) | (show (q + 1) * 8 ≤ 140737488355328; omega)) | (rw [itI_len]; first | (unfold maxLen; omega) | (show (k + 1) * 8 ≤ 140737488355328; omega)) | (rw [hlr]; first | (unfold maxLen; omega) | (show (r + 1) * 24 ≤ 140737488355328; omega))) (by first | (rw [nmI_len]; first | (unfold maxLen; omega) | (show (q + 1) * 8 ≤ 140737488355328; omega)) | (rw [itI_len]; first | (unfold maxLen; omega) | (show (k + 1) * 8 ≤ 140737488355328; omega)) | (rw [hlr]; first | (unfold maxLen; omega) | (show (r + 1) * 24 ≤ 140737488355328; omega))) rfl ?_; clear hA hM a; intro a37 c38 w30 hM
              replace hM : Mem _ _ [pt b35 #[.int .i64 (((nmI X 2 q)).getD ((2 + 2 * k)) 0)] 3, own 3 1 (.slice a32 ((((itI X 3 k) ++ [((nmI X 2 q)).getD ((1 + 2 * k)) 0])).length) c33) ((((itI X 3 k) ++ [((nmI X 2 q)).getD ((1 + 2 * k)) 0])).length) ((((itI X 3 k) ++ [((nmI X 2 q)).getD ((1 + 2 * k)) 0])).map (Value.int .i64)), own 3 1 (.slice a37 ((((itI X 4 k)).length) + 1) c38) ((((itI X 4 k)).length) + 1) (((itI X 4 k)).map (Value.int .i64) ++ [.int .i64 (((nmI X 2 q)).getD ((2 + 2 * k)) 0)]), own 3 1 (.slice na (((nmI X 2 q)).length) nc) (((nmI X 2 q)).length) (((nmI X 2 q)).map (Value.int .i64)), pt b15 #[.int .i64 1, .int .i64 ((n : Int)), .int .i64 ((X.getD 2 tz).n), .slice wa ((itI X 3 k).length) wc, .slice va ((itI X 4 k).length) vc, .slice none 0 0] 25, own 69 4 (.slice (some ⟨g8, 0, none⟩) X.length c6) X.length (tokv X), pt b3 cz0 25, pt b1 cz0 25] _ := hM
              have hl39 : (((itI X 4 k)).length) + 1 = ((itI X 4 k) ++ [((nmI X 2 q)).getD ((2 + 2 * k)) 0]).length := by simp
              rw [hl39, show ((itI X 4 k)).map (Value.int .i64) ++ [.int .i64 (((nmI X 2 q)).getD ((2 + 2 * k)) 0)] = ((itI X 4 k) ++ [((nmI X 2 q)).getD ((2 + 2 * k)) 0]).map (Value.int .i64) by simp] at hM
              replace hM := hM.drop 0
              replace hM : Mem _ _ [own 3 1 (.slice a32 ((((itI X 3 k) ++ [((nmI X 2 q)).getD ((1 + 2 * k)) 0])).length) c33) ((((itI X 3 k) ++ [((nmI X 2 q)).getD ((1 + 2 * k)) 0])).length) ((((itI X 3 k) ++ [((nmI X 2 q)).getD ((1 + 2 * k)) 0])).map (Value.int .i64)), own 3 1 (.slice a37 ((((itI X 4 k) ++ [((nmI X 2 q)).getD ((2 + 2 * k)) 0])).length) c38) ((((itI X 4 k) ++ [((nmI X 2 q)).getD ((2 + 2 * k)) 0])).length) ((((itI X 4 k) ++ [((nmI X 2 q)).getD ((2 + 2 * k)) 0])).map (Value.int .i64)), own 3 1 (.slice na (((nmI X 2 q)).length) nc) (((nmI X 2 q)).length) (((nmI X 2 q)).map (Value.int .i64)), pt b15 #[.int .i64 1, .int .i64 ((n : Int)), .int .i64 ((X.getD 2 tz).n), .slice wa ((itI X 3 k).length) wc, .slice va ((itI X 4 k).length) vc, .slice none 0 0] 25, own 69 4 (.slice (some ⟨g8, 0, none⟩) X.length c6) X.length (tokv X), pt b3 cz0 25, pt b1 cz0 25] _ := hM
              refine ⟨((((hM.drop 6).drop 4).drop 1).drop 0), fun a hA => ?_⟩; rw [hl39] at hA; clear hl39
              refine D.store (k := 3) hA hM rfl sz22 rfl rfl rfl rfl rfl ?_; clear hM
              intro w31 hM; refine ⟨fun _ hne => absurd rfl hne, ?_⟩
              replace hM : Mem _ _ [own 3 1 (.slice a32 ((((itI X 3 k) ++ [((nmI X 2 q)).getD ((1 + 2 * k)) 0])).length) c33) ((((itI X 3 k) ++ [((nmI X 2 q)).getD ((1 + 2 * k)) 0])).length) ((((itI X 3 k) ++ [((nmI X 2 q)).getD ((1 + 2 * k)) 0])).map (Value.int .i64)), own 3 1 (.slice a37 ((((itI X 4 k) ++ [((nmI X 2 q)).getD ((2 + 2 * k)) 0])).length) c38) ((((itI X 4 k) ++ [((nmI X 2 q)).getD ((2 + 2 * k)) 0])).length) ((((itI X 4 k) ++ [((nmI X 2 q)).getD ((2 + 2 * k)) 0])).map (Value.int .i64)), own 3 1 (.slice na (((nmI X 2 q)).length) nc) (((nmI X 2 q)).length) (((nmI X 2 q)).map (Value.int .i64)), pt b15 #[.int .i64 1, .int .i64 ((n : Int)), .int .i64 ((X.getD 2 tz).n), .slice a32 ((((itI X 3 k) ++ [((nmI X 2 q)).getD ((1 + 2 * k)) 0])).length) c33, .slice va ((itI X 4 k).length) vc, .slice none 0 0] 25, own 69 4 (.slice (some ⟨g8, 0, none⟩) X.length c6) X.length (tokv X), pt b3 cz0 25, pt b1 cz0 25] _ := hM
              refine D.valF hA rfl (fun _ => R.fieldAddr (q := 4) fi25_4 rfl rfl rfl) rfl ?_; clear hA a; intro a hA
              refine D.store (k := 3) hA hM rfl sz22 rfl rfl rfl rfl rfl ?_; clear hM
              intro w32 hM; refine ⟨fun hb0 => absurd hb0 (by decide), ?_⟩
              replace hM : Mem _ _ [own 3 1 (.slice a32 ((((itI X 3 k) ++ [((nmI X 2 q)).getD ((1 + 2 * k)) 0])).length) c33) ((((itI X 3 k) ++ [((nmI X 2 q)).getD ((1 + 2 * k)) 0])).length) ((((itI X 3 k) ++ [((nmI X 2 q)).getD ((1 + 2 * k)) 0])).map (Value.int .i64)), own 3 1 (.slice a37 ((((itI X 4 k) ++ [((nmI X 2 q)).getD ((2 + 2 * k)) 0])).length) c38) ((((itI X 4 k) ++ [((nmI X 2 q)).getD ((2 + 2 * k)) 0])).length) ((((itI X 4 k) ++ [((nmI X 2 q)).getD ((2 + 2 * k)) 0])).map (Value.int .i64)), own 3 1 (.slice na (((nmI X 2 q)).length) nc) (((nmI X 2 q)).length) (((nmI X 2 q)).map (Value.int .i64)), pt b15 #[.int .i64 1, .int .i64 ((n : Int)), .int .i64 ((X.getD 2 tz).n), .slice a32 ((((itI X 3 k) ++ [((nmI X 2 q)).getD ((1 + 2 * k)) 0])).length) c33, .slice a37 ((((itI X 4 k) ++ [((nmI X 2 q)).getD ((2 + 2 * k)) 0])).length) c38, .slice none 0 0] 25, own 69 4 (.slice (some ⟨g8, 0, none⟩) X.length c6) X.length (tokv X), pt b3 cz0 25, pt b1 cz0 25] _ := hM
              refine D.done ?_
              replace hA : St 303 [(2, _), (9, _), (10, _), (12, _), (14, _), (17, _)] a := hA.sub ((.cons rfl (.cons rfl (.cons rfl (.cons rfl (.cons rfl (.cons rfl .nil)))))))
              refine Ends.inBlock (Ends.region ?_)
              refine S.val hA (R.move rfl) rfl ?_; clear hA a; intro a hA
              refine S.val hA (R.addI rfl rfl (r := ((k : Int)) + 1) rfl (by first | omega | (rw [nmI_len]; omega) | (simp only [nmI_len]; omega))) rfl ?_; clear hA a; intro a hA
              refine S.val hA (R.assign rfl) rfl ?_; clear hA a; intro a hA
              refine S.done ?_
              rw [show ((itI X 3 k) ++ [((nmI X 2 q)).getD ((1 + 2 * k)) 0]) = itI X 3 (k + 1) by rw [nmI_at (by omega)]; rw [show vl X 2 (1 + 2 * k) = vl X 3 (2 * k) by unfold vl; congr 2; omega]; exact itI_snoc X 3 k, show ((itI X 4 k) ++ [((nmI X 2 q)).getD ((2 + 2 * k)) 0]) = itI X 4 (k + 1) by rw [nmI_at (by omega)]; rw [show vl X 2 (2 + 2 * k) = vl X 4 (2 * k) by unfold vl; congr 2; omega]; exact itI_snoc X 4 k] at hM
              exact hNext1 ((k + 1, a32, c33, a37, c38)) _ _ ((by show n - (k + 1) < n - k; omega)) ⟨hA.sub ((.cons rfl (.cons rfl (.cons rfl (.cons rfl (.cons rfl (.cons rfl .nil))))))), hM, (by omega)⟩
             ·
              refine D.eff hA rfl (R.loadI (hM.rsl (k := 3) rfl) sz3 rfl (by first | omega | (rw [nmI_len]; omega) | (simp only [nmI_len]; omega))) rfl (((((hM.drop 7).drop 5).drop 2).drop 1).drop 0) ?_; clear hA a; intro a hA
              refine D.fork rfl rfl ?_ ?_
              ·
               refine D.append (k := 1) (k2 := 0) hA hM rfl rfl rfl Tryd.underlying22 info3 rfl rfl rfl rfl rfl rfl rfl rfl rfl (by first | (rw [nmI_len]; first | (unfold maxLen; omega) | (show (q + 1) * 8 ≤ 140737488355328; omega)) | (rw [itI_len]; first | (unfold maxLen; omega) | (show (k + 1) * 8 ≤ 140737488355328; omega)) | (rw [hlr]; first | (unfold maxLen; omega) | (show (r + 1) * 24 ≤ 140737488355328; omega))) (by first | (rw [nmI_len]; first | (unfold maxLen; omega) | (show (q + 1) * 8 ≤ 140737488355328; omega)) | (rw [itI_len]; first | (unfold maxLen; omega) | (show (k + 1) * 8 ≤ 140737488355328; omega)) | (rw [hlr]; first | (unfold maxLen; omega) | (show (r + 1) * 24 ≤ 140737488355328; omega))) rfl ?_; clear hA hM a; intro a40 c41 w33 hM
               replace hM : Mem _ _ [pt b30 #[.int .i64 (((nmI X 2 q)).getD ((1 + 2 * k)) 0)] 3, own 3 1 (.slice a40 ((((itI X 3 k)).length) + 1) c41) ((((itI X 3 k)).length) + 1) (((itI X 3 k)).map (Value.int .i64) ++ [.int .i64 (((nmI X 2 q)).getD ((1 + 2 * k)) 0)]), own 3 1 (.slice va (((itI X 4 k)).length) vc) (((itI X 4 k)).length) (((itI X 4 k)).map (Value.int .i64)), own 3 1 (.slice na (((nmI X 2 q)).length) nc) (((nmI X 2 q)).length) (((nmI X 2 q)).map (Value.int .i64)), pt b15 #[.int .i64 1, .int .i64 ((n : Int)), .int .i64 ((X.getD 2 tz).n), .slice wa ((itI X 3 k).length) wc, .slice va ((itI X 4 k).length) vc, .slice none 0 0] 25, own 69 4 (.slice (some ⟨g8, 0, none⟩) X.length c6) X.length (tokv X), pt b3 cz0 25, pt b1 cz0 25] _ := hM
               have hl42 : (((itI X 3 k)).length) + 1 = ((itI X 3 k) ++ [((nmI X 2 q)).getD ((1 + 2 * k)) 0]).length := by simp
               rw [hl42, show ((itI X 3 k)).map (Value.int .i64) ++ [.int .i64 (((nmI X 2 q)).getD ((1 + 2 * k)) 0)] = ((itI X 3 k) ++ [((nmI X 2 q)).getD ((1 + 2 * k)) 0]).map (Value.int .i64) by simp] at hM
               replace hM := hM.drop 0
               replace hM : Mem _ _ [own 3 1 (.slice a40 ((((itI X 3 k) ++ [((nmI X 2 q)).getD ((1 + 2 * k)) 0])).length) c41) ((((itI X 3 k) ++ [((nmI X 2 q)).getD ((1 + 2 * k)) 0])).length) ((((itI X 3 k) ++ [((nmI X 2 q)).getD ((1 + 2 * k)) 0])).map (Value.int .i64)), own 3 1 (.slice va (((itI X 4 k)).length) vc) (((itI X 4 k)).length) (((itI X 4 k)).map (Value.int .i64)), own 3 1 (.slice na (((nmI X 2 q)).length) nc) (((nmI X 2 q)).length) (((nmI X 2 q)).map (Value.int .i64)), pt b15 #[.int .i64 1, .int .i64 ((n : Int)), .int .i64 ((X.getD 2 tz).n), .slice wa ((itI X 3 k).length) wc, .slice va ((itI X 4 k).length) vc, .slice none 0 0] 25, own 69 4 (.slice (some ⟨g8, 0, none⟩) X.length c6) X.length (tokv X), pt b3 cz0 25, pt b1 cz0 25] _ := hM
               refine ⟨((((hM.drop 6).drop 4).drop 1).drop 0), fun a hA => ?_⟩; rw [hl42] at hA; clear hl42
               refine D.valF hA rfl (fun _ => R.fieldAddr (q := 3) fi25_3 rfl rfl rfl) rfl ?_; clear hA a; intro a hA
               refine D.buildSl (cells := #[.int .i64 (((nmI X 2 q)).getD ((2 + 2 * k)) 0)]) hA hM rfl Tryd.underlying22 info3 rfl rfl rfl rfl (by kernel_rfl) rfl ?_; clear hA hM a; intro b43 w34 hb44 hM; refine ⟨(fun hM => ((((hM.drop 6).drop 4).drop 1).drop 0)) hM.tail, fun a hA => ?_⟩
               replace hM : Mem _ _ [pt b43 #[.int .i64 (((nmI X 2 q)).getD ((2 + 2 * k)) 0)] 3, own 3 1 (.slice a40 ((((itI X 3 k) ++ [((nmI X 2 q)).getD ((1 + 2 * k)) 0])).length) c41) ((((itI X 3 k) ++ [((nmI X 2 q)).getD ((1 + 2 * k)) 0])).length) ((((itI X 3 k) ++ [((nmI X 2 q)).getD ((1 + 2 * k)) 0])).map (Value.int .i64)), own 3 1 (.slice va (((itI X 4 k)).length) vc) (((itI X 4 k)).length) (((itI X 4 k)).map (Value.int .i64)), own 3 1 (.slice na (((nmI X 2 q)).length) nc) (((nmI X 2 q)).length) (((nmI X 2 q)).map (Value.int .i64)), pt b15 #[.int .i64 1, .int .i64 ((n : Int)), .int .i64 ((X.getD 2 tz).n), .slice wa ((itI X 3 k).length) wc, .slice va ((itI X 4 k).length) vc, .slice none 0 0] 25, own 69 4 (.slice (some ⟨g8, 0, none⟩) X.length c6) X.length (tokv X), pt b3 cz0 25, pt b1 cz0 25] _ := hM
               refine D.append (k := 2) (k2 := 0) hA hM rfl rfl rfl Tryd.underlying22 info3 rfl rfl rfl rfl rfl rfl rfl rfl rfl (by first | (rw [nmI_len]; first | (unfold maxLen; omega) | (show (q + 1) * 8 ≤ 140737488355328; omega)) | (rw [itI_len]; first | (unfold maxLen; omega) | (show (k + 1) * 8 ≤ 140737488355328; omega)) | (rw [hlr]; first | (unfold maxLen; omega) | (show (r + 1) * 24 ≤ 140737488355328; omega))) (by first | (rw [nmI_len]; first | (unfold maxLen; omega) | (show (q + 1) * 8 ≤ 140737488355328; omega)) | (rw [itI_len]; first | (unfold maxLen; omega) | (show (k + 1) * 8 ≤ 140737488355328; omega)) | (rw [hlr]; first | (unfold maxLen; omega) | (show (r + 1) * 24 ≤ 140737488355328; omega))) rfl ?_; clear hA hM a; intro a45 c46 w35 hM
               replace hM : Mem _ _ [pt b43 #[.int .i64 (((nmI X 2 q)).getD ((2 + 2 * k)) 0)] 3, own 3 1 (.slice a40 ((((itI X 3 k) ++ [((nmI X 2 q)).getD ((1 + 2 * k)) 0])).length) c41) ((((itI X 3 k) ++ [((nmI X 2 q)).getD ((1 + 2 * k)) 0])).length) ((((itI X 3 k) ++ [((nmI X 2 q)).getD ((1 + 2 * k)) 0])).map (Value.int .i64)), own 3 1 (.slice a45 ((((itI X 4 k)).length) + 1) c46) ((((itI X 4 k)).length) + 1) (((itI X 4 k)).map (Value.int .i64) ++ [.int .i64 (((nmI X 2 q)).getD ((2 + 2 * k)) 0)]), own 3 1 (.slice na (((nmI X 2 q)).length) nc) (((nmI X 2 q)).length) (((nmI X 2 q)).map (Value.int .i64)), pt b15 #[.int .i64 1, .int .i64 ((n : Int)), .int .i64 ((X.getD 2 tz).n), .slice wa ((itI X 3 k).length) wc, .slice va ((itI X 4 k).length) vc, .slice none 0 0] 25, own 69 4 (.slice (some ⟨g8, 0, none⟩) X.length c6) X.length (tokv X), pt b3 cz0 25, pt b1 cz0 25] _ := hM
               have hl47 : (((itI X 4 k)).length) + 1 = ((itI X 4 k) ++ [((nmI X 2 q)).getD ((2 + 2 * k)) 0]).length := by simp
               rw [hl47, show ((itI X 4 k)).map (Value.int .i64) ++ [.int .i64 (((nmI X 2 q)).getD ((2 + 2 * k)) 0)] = ((itI X 4 k) ++ [((nmI X 2 q)).getD ((2 + 2 * k)) 0]).map (Value.int .i64) by simp] at hM
               replace hM := hM.drop 0
               replace hM : Mem _ _ [own 3 1 (.slice a40 ((((itI X 3 k) ++ [((nmI X 2 q)).getD ((1 + 2 * k)) 0])).length) c41) ((((itI X 3 k) ++ [((nmI X 2 q)).getD ((1 + 2 * k)) 0])).length) ((((itI X 3 k) ++ [((nmI X 2 q)).getD ((1 + 2 * k)) 0])).map (Value.int .i64)), own 3 1 (.slice a45 ((((itI X 4 k) ++ [((nmI X 2 q)).getD ((2 + 2 * k)) 0])).length) c46) ((((itI X 4 k) ++ [((nmI X 2 q)).getD ((2 + 2 * k)) 0])).length) ((((itI X 4 k) ++ [((nmI X 2 q)).getD ((2 + 2 * k)) 0])).map (Value.int .i64)), own 3 1 (.slice na (((nmI X 2 q)).length) nc) (((nmI X 2 q)).length) (((nmI X 2 q)).map (Value.int .i64)), pt b15 #[.int .i64 1, .int .i64 ((n : Int)), .int .i64 ((X.getD 2 tz).n), .slice wa ((itI X 3 k).length) wc, .slice va ((itI X 4 k).length) vc, .slice none 0 0] 25, own 69 4 (.slice (some ⟨g8, 0, none⟩) X.length c6) X.length (tokv X), pt b3 cz0 25, pt b1 cz0 25] _ := hM
               refine ⟨((((hM.drop 6).drop 4).drop 1).drop 0), fun a hA => ?_⟩; rw [hl47] at hA; clear hl47
               refine D.store (k := 3) hA hM rfl sz22 rfl rfl rfl rfl rfl ?_; clear hM
               intro w36 hM; refine ⟨fun _ hne => absurd rfl hne, ?_⟩
               replace hM : Mem _ _ [own 3 1 (.slice a40 ((((itI X 3 k) ++ [((nmI X 2 q)).getD ((1 + 2 * k)) 0])).length) c41) ((((itI X 3 k) ++ [((nmI X 2 q)).getD ((1 + 2 * k)) 0])).length) ((((itI X 3 k) ++ [((nmI X 2 q)).getD ((1 + 2 * k)) 0])).map (Value.int .i64)), own 3 1 (.slice a45 ((((itI X 4 k) ++ [((nmI X 2 q)).getD ((2 + 2 * k)) 0])).length) c46) ((((itI X 4 k) ++ [((nmI X 2 q)).getD ((2 + 2 * k)) 0])).length) ((((itI X 4 k) ++ [((nmI X 2 q)).getD ((2 + 2 * k)) 0])).map (Value.int .i64)), own 3 1 (.slice na (((nmI X 2 q)).length) nc) (((nmI X 2 q)).length) (((nmI X 2 q)).map (Value.int .i64)), pt b15 #[.int .i64 1, .int .i64 ((n : Int)), .int .i64 ((X.getD 2 tz).n), .slice a40 ((((itI X 3 k) ++ [((nmI X 2 q)).getD ((1 + 2 * k)) 0])).length) c41, .slice va ((itI X 4 k).length) vc, .slice none 0 0] 25, own 69 4 (.slice (some ⟨g8, 0, none⟩) X.length c6) X.length (tokv X), pt b3 cz0 25, pt b1 cz0 25] _ := hM
               refine D.valF hA rfl (fun _ => R.fieldAddr (q := 4) fi25_4 rfl rfl rfl) rfl ?_; clear hA a; intro a hA
               refine D.store (k := 3) hA hM rfl sz22 rfl rfl rfl rfl rfl ?_; clear hM
               intro w37 hM; refine ⟨fun hb0 => absurd hb0 (by decide), ?_⟩
               replace hM : Mem _ _ [own 3 1 (.slice a40 ((((itI X 3 k) ++ [((nmI X 2 q)).getD ((1 + 2 * k)) 0])).length) c41) ((((itI X 3 k) ++ [((nmI X 2 q)).getD ((1 + 2 * k)) 0])).length) ((((itI X 3 k) ++ [((nmI X 2 q)).getD ((1 + 2 * k)) 0])).map (Value.int .i64)), own 3 1 (.slice a45 ((((itI X 4 k) ++ [((nmI X 2 q)).getD ((2 + 2 * k)) 0])).length) c46) ((((itI X 4 k) ++ [((nmI X 2 q)).getD ((2 + 2 * k)) 0])).length) ((((itI X 4 k) ++ [((nmI X 2 q)).getD ((2 + 2 * k)) 0])).map (Value.int .i64)), own 3 1 (.slice na (((nmI X 2 q)).length) nc) (((nmI X 2 q)).length) (((nmI X 2 q)).map (Value.int .i64)), pt b15 #[.int .i64 1, .int .i64 ((n : Int)), .int .i64 ((X.getD 2 tz).n), .slice a40 ((((itI X 3 k) ++ [((nmI X 2 q)).getD ((1 + 2 * k)) 0])).length) c41, .slice a45 ((((itI X 4 k) ++ [((nmI X 2 q)).getD ((2 + 2 * k)) 0])).length) c46, .slice none 0 0] 25, own 69 4 (.slice (some ⟨g8, 0, none⟩) X.length c6) X.length (tokv X), pt b3 cz0 25, pt b1 cz0 25] _ := hM
               refine D.done ?_
               replace hA : St 303 [(2, _), (9, _), (10, _), (12, _), (14, _), (17, _)] a := hA.sub ((.cons rfl (.cons rfl (.cons rfl (.cons rfl (.cons rfl (.cons rfl .nil)))))))
               refine Ends.inBlock (Ends.region ?_)
               refine S.val hA (R.move rfl) rfl ?_; clear hA a; intro a hA
               refine S.val hA (R.addI rfl rfl (r := ((k : Int)) + 1) rfl (by first | omega | (rw [nmI_len]; omega) | (simp only [nmI_len]; omega))) rfl ?_; clear hA a; intro a hA
               refine S.val hA (R.assign rfl) rfl ?_; clear hA a; intro a hA
               refine S.done ?_
               rw [show ((itI X 3 k) ++ [((nmI X 2 q)).getD ((1 + 2 * k)) 0]) = itI X 3 (k + 1) by rw [nmI_at (by omega)]; rw [show vl X 2 (1 + 2 * k) = vl X 3 (2 * k) by unfold vl; congr 2; omega]; exact itI_snoc X 3 k, show ((itI X 4 k) ++ [((nmI X 2 q)).getD ((2 + 2 * k)) 0]) = itI X 4 (k + 1) by rw [nmI_at (by omega)]; rw [show vl X 2 (2 + 2 * k) = vl X 4 (2 * k) by unfold vl; congr 2; omega]; exact itI_snoc X 4 k] at hM
               exact hNext1 ((k + 1, a40, c41, a45, c46)) _ _ ((by show n - (k + 1) < n - k; omega)) ⟨hA.sub ((.cons rfl (.cons rfl (.cons rfl (.cons rfl (.cons rfl (.cons rfl .nil))))))), hM, (by omega)⟩
              ·
               refine D.buildSl (cells := #[.int .i64 (((nmI X 2 q)).getD ((2 + 2 * k)) 0)]) hA hM rfl Tryd.underlying22 info3 rfl rfl rfl rfl (by kernel_rfl) rfl ?_; clear hA hM a; intro b48 w38 hb49 hM; refine ⟨(fun hM => (((((hM.drop 7).drop 5).drop 2).drop 1).drop 0)) hM.tail, fun a hA => ?_⟩
               replace hM : Mem _ _ [pt b48 #[.int .i64 (((nmI X 2 q)).getD ((2 + 2 * k)) 0)] 3, pt b30 #[.int .i64 (((nmI X 2 q)).getD ((1 + 2 * k)) 0)] 3, own 3 1 (.slice wa (((itI X 3 k)).length) wc) (((itI X 3 k)).length) (((itI X 3 k)).map (Value.int .i64)), own 3 1 (.slice va (((itI X 4 k)).length) vc) (((itI X 4 k)).length) (((itI X 4 k)).map (Value.int .i64)), own 3 1 (.slice na (((nmI X 2 q)).length) nc) (((nmI X 2 q)).length) (((nmI X 2 q)).map (Value.int .i64)), pt b15 #[.int .i64 1, .int .i64 ((n : Int)), .int .i64 ((X.getD 2 tz).n), .slice wa ((itI X 3 k).length) wc, .slice va ((itI X 4 k).length) vc, .slice none 0 0] 25, own 69 4 (.slice (some ⟨g8, 0, none⟩) X.length c6) X.length (tokv X), pt b3 cz0 25, pt b1 cz0 25] _ := hM
               refine D.append (k := 2) (k2 := 1) hA hM rfl rfl rfl Tryd.underlying22 info3 rfl rfl rfl rfl rfl rfl rfl rfl rfl (by first | (rw [nmI_len]; first | (unfold maxLen; omega) | (show (q + 1) * 8 ≤ 140737488355328; omega)) | (rw [itI_len]; first | (unfold maxLen; omega) | (show (k + 1) * 8 ≤ 140737488355328; omega)) | (rw [hlr]; first | (unfold maxLen; omega) | (show (r + 1) * 24 ≤ 140737488355328; omega))) (by first | (rw [nmI_len]; first | (unfold maxLen; omega) | (show (q + 1) * 8 ≤ 140737488355328; omega)) | (rw [itI_len]; first | (unfold maxLen; omega) | (show (k + 1) * 8 ≤ 140737488355328; omega)) | (rw [hlr]; first | (unfold maxLen; omega) | (show (r + 1) * 24 ≤ 140737488355328; omega))) rfl ?_; clear hA hM a; intro a50 c51 w39 hM
               replace hM : Mem _ _ [pt b48 #[.int .i64 (((nmI X 2 q)).getD ((2 + 2 * k)) 0)] 3, pt b30 #[.int .i64 (((nmI X 2 q)).getD ((1 + 2 * k)) 0)] 3, own 3 1 (.slice a50 ((((itI X 3 k)).length) + 1) c51) ((((itI X 3 k)).length) + 1) (((itI X 3 k)).map (Value.int .i64) ++ [.int .i64 (((nmI X 2 q)).getD ((1 + 2 * k)) 0)]), own 3 1 (.slice va (((itI X 4 k)).length) vc) (((itI X 4 k)).length) (((itI X 4 k)).map (Value.int .i64)), own 3 1 (.slice na (((nmI X 2 q)).length) nc) (((nmI X 2 q)).length) (((nmI X 2 q)).map (Value.int .i64)), pt b15 #[.int .i64 1, .int .i64 ((n : Int)), .int .i64 ((X.getD 2 tz).n), .slice wa ((itI X 3 k).length) wc, .slice va ((itI X 4 k).length) vc, .slice none 0 0] 25, own 69 4 (.slice (some ⟨g8, 0, none⟩) X.length c6) X.length (tokv X), pt b3 cz0 25, pt b1 cz0 25] _ := hM
               have hl52 : (((itI X 3 k)).length) + 1 = ((itI X 3 k) ++ [((nmI X 2 q)).getD ((1 + 2 * k)) 0]).length := by simp
               rw [hl52, show ((itI X 3 k)).map (Value.int .i64) ++ [.int .i64 (((nmI X 2 q)).getD ((1 + 2 * k)) 0)] = ((itI X 3 k) ++ [((nmI X 2 q)).getD ((1 + 2 * k)) 0]).map (Value.int .i64) by simp] at hM
               replace hM := hM.drop 1
               replace hM : Mem _ _ [pt b48 #[.int .i64 (((nmI X 2 q)).getD ((2 + 2 * k)) 0)] 3, own 3 1 (.slice a50 ((((itI X 3 k) ++ [((nmI X 2 q)).getD ((1 + 2 * k)) 0])).length) c51) ((((itI X 3 k) ++ [((nmI X 2 q)).getD ((1 + 2 * k)) 0])).length) ((((itI X 3 k) ++ [((nmI X 2 q)).getD ((1 + 2 * k)) 0])).map (Value.int .i64)), own 3 1 (.slice va (((itI X 4 k)).length) vc) (((itI X 4 k)).length) (((itI X 4 k)).map (Value.int .i64)), own 3 1 (.slice na (((nmI X 2 q)).length) nc) (((nmI X 2 q)).length) (((nmI X 2 q)).map (Value.int .i64)), pt b15 #[.int .i64 1, .int .i64 ((n : Int)), .int .i64 ((X.getD 2 tz).n), .slice wa ((itI X 3 k).length) wc, .slice va ((itI X 4 k).length) vc, .slice none 0 0] 25, own 69 4 (.slice (some ⟨g8, 0, none⟩) X.length c6) X.length (tokv X), pt b3 cz0 25, pt b1 cz0 25] _ := hM
               refine ⟨(((((hM.drop 7).drop 5).drop 2).drop 1).drop 0), fun a hA => ?_⟩; rw [hl52] at hA; clear hl52
               refine D.valF hA rfl (fun _ => R.fieldAddr (q := 3) fi25_3 rfl rfl rfl) rfl ?_; clear hA a; intro a hA
               refine D.append (k := 2) (k2 := 0) hA hM rfl rfl rfl Tryd.underlying22 info3 rfl rfl rfl rfl rfl rfl rfl rfl rfl (by first | (rw [nmI_len]; first | (unfold maxLen; omega) | (show (q + 1) * 8 ≤ 140737488355328; omega)) | (rw [itI_len]; first | (unfold maxLen; omega) | (show (k + 1) * 8 ≤ 140737488355328; omega)) | (rw [hlr]; first | (unfold maxLen; omega) | (show (r + 1) * 24 ≤ 140737488355328; omega))) (by first | (rw [nmI_len]; first | (unfold maxLen; omega) | (show (q + 1) * 8 ≤ 140737488355328; omega)) | (rw [itI_len]; first | (unfold maxLen; omega) | (show (k + 1) * 8 ≤ 140737488355328; omega)) | (rw [hlr]; first | (unfold maxLen; omega) | (show (r + 1) * 24 ≤ 140737488355328; omega))) rfl ?_; clear hA hM a; intro a53 c54 w40 hM
               replace hM : Mem _ _ [pt b48 #[.int .i64 (((nmI X 2 q)).getD ((2 + 2 * k)) 0)] 3, own 3 1 (.slice a50 ((((itI X 3 k) ++ [((nmI X 2 q)).getD ((1 + 2 * k)) 0])).length) c51) ((((itI X 3 k) ++ [((nmI X 2 q)).getD ((1 + 2 * k)) 0])).length) ((((itI X 3 k) ++ [((nmI X 2 q)).getD ((1 + 2 * k)) 0])).map (Value.int .i64)), own 3 1 (.slice a53 ((((itI X 4 k)).length) + 1) c54) ((((itI X 4 k)).length) + 1) (((itI X 4 k)).map (Value.int .i64) ++ [.int .i64 (((nmI X 2 q)).getD ((2 + 2 * k)) 0)]), own 3 1 (.slice na (((nmI X 2 q)).length) nc) (((nmI X 2 q)).length) (((nmI X 2 q)).map (Value.int .i64)), pt b15 #[.int .i64 1, .int .i64 ((n : Int)), .int .i64 ((X.getD 2 tz).n), .slice wa ((itI X 3 k).length) wc, .slice va ((itI X 4 k).length) vc, .slice none 0 0] 25, own 69 4 (.slice (some ⟨g8, 0, none⟩) X.length c6) X.length (tokv X), pt b3 cz0 25, pt b1 cz0 25] _ := hM
               have hl55 : (((itI X 4 k)).length) + 1 = ((itI X 4 k) ++ [((nmI X 2 q)).getD ((2 + 2 * k)) 0]).length := by simp
               rw [hl55, show ((itI X 4 k)).map (Value.int .i64) ++ [.int .i64 (((nmI X 2 q)).getD ((2 + 2 * k)) 0)] = ((itI X 4 k) ++ [((nmI X 2 q)).getD ((2 + 2 * k)) 0]).map (Value.int .i64) by simp] at hM
               replace hM := hM.drop 0
               replace hM : Mem _ _ [own 3 1 (.slice a50 ((((itI X 3 k) ++ [((nmI X 2 q)).getD ((1 + 2 * k)) 0])).length) c51) ((((itI X 3 k) ++ [((nmI X 2 q)).getD ((1 + 2 * k)) 0])).length) ((((itI X 3 k) ++ [((nmI X 2 q)).getD ((1 + 2 * k)) 0])).map (Value.int .i64)), own 3 1 (.slice a53 ((((itI X 4 k) ++ [((nmI X 2 q)).getD ((2 + 2 * k)) 0])).length) c54) ((((itI X 4 k) ++ [((nmI X 2 q)).getD ((2 + 2 * k)) 0])).length) ((((itI X 4 k) ++ [((nmI X 2 q)).getD ((2 + 2 * k)) 0])).map (Value.int .i64)), own 3 1 (.slice na (((nmI X 2 q)).length) nc) (((nmI X 2 q)).length) (((nmI X 2 q)).map (Value.int .i64)), pt b15 #[.int .i64 1, .int .i64 ((n : Int)), .int .i64 ((X.getD 2 tz).n), .slice wa ((itI X 3 k).length) wc, .slice va ((itI X 4 k).length) vc, .slice none 0 0] 25, own 69 4 (.slice (some ⟨g8, 0, none⟩) X.length c6) X.length (tokv X), pt b3 cz0 25, pt b1 cz0 25] _ := hM
               refine ⟨((((hM.drop 6).drop 4).drop 1).drop 0), fun a hA => ?_⟩; rw [hl55] at hA; clear hl55
               refine D.store (k := 3) hA hM rfl sz22 rfl rfl rfl rfl rfl ?_; clear hM
               intro w41 hM; refine ⟨fun _ hne => absurd rfl hne, ?_⟩
               replace hM : Mem _ _ [own 3 1 (.slice a50 ((((itI X 3 k) ++ [((nmI X 2 q)).getD ((1 + 2 * k)) 0])).length) c51) ((((itI X 3 k) ++ [((nmI X 2 q)).getD ((1 + 2 * k)) 0])).length) ((((itI X 3 k) ++ [((nmI X 2 q)).getD ((1 + 2 * k)) 0])).map (Value.int .i64)), own 3 1 (.slice a53 ((((itI X 4 k) ++ [((nmI X 2 q)).getD ((2 + 2 * k)) 0])).length) c54) ((((itI X 4 k) ++ [((nmI X 2 q)).getD ((2 + 2 * k)) 0])).length) ((((itI X 4 k) ++ [((nmI X 2 q)).getD ((2 + 2 * k)) 0])).map (Value.int .i64)), own 3 1 (.slice na (((nmI X 2 q)).length) nc) (((nmI X 2 q)).length) (((nmI X 2 q)).map (Value.int .i64)), pt b15 #[.int .i64 1, .int .i64 ((n : Int)), .int .i64 ((X.getD 2 tz).n), .slice a50 ((((itI X 3 k) ++ [((nmI X 2 q)).getD ((1 + 2 * k)) 0])).length) c51, .slice va ((itI X 4 k).length) vc, .slice none 0 0] 25, own 69 4 (.slice (some ⟨g8, 0, none⟩) X.length c6) X.length (tokv X), pt b3 cz0 25, pt b1 cz0 25] _ := hM
               refine D.valF hA rfl (fun _ => R.fieldAddr (q := 4) fi25_4 rfl rfl rfl) rfl ?_; clear hA a; intro a hA
               refine D.store (k := 3) hA hM rfl sz22 rfl rfl rfl rfl rfl ?_; clear hM
               intro w42 hM; refine ⟨fun hb0 => absurd hb0 (by decide), ?_⟩
               replace hM : Mem _ _ [own 3 1 (.slice a50 ((((itI X 3 k) ++ [((nmI X 2 q)).getD ((1 + 2 * k)) 0])).length) c51) ((((itI X 3 k) ++ [((nmI X 2 q)).getD ((1 + 2 * k)) 0])).length) ((((itI X 3 k) ++ [((nmI X 2 q)).getD ((1 + 2 * k)) 0])).map (Value.int .i64)), own 3 1 (.slice a53 ((((itI X 4 k) ++ [((nmI X 2 q)).getD ((2 + 2 * k)) 0])).length) c54) ((((itI X 4 k) ++ [((nmI X 2 q)).getD ((2 + 2 * k)) 0])).length) ((((itI X 4 k) ++ [((nmI X 2 q)).getD ((2 + 2 * k)) 0])).map (Value.int .i64)), own 3 1 (.slice na (((nmI X 2 q)).length) nc) (((nmI X 2 q)).length) (((nmI X 2 q)).map (Value.int .i64)), pt b15 #[.int .i64 1, .int .i64 ((n : Int)), .int .i64 ((X.getD 2 tz).n), .slice a50 ((((itI X 3 k) ++ [((nmI X 2 q)).getD ((1 + 2 * k)) 0])).length) c51, .slice a53 ((((itI X 4 k) ++ [((nmI X 2 q)).getD ((2 + 2 * k)) 0])).length) c54, .slice none 0 0] 25, own 69 4 (.slice (some ⟨g8, 0, none⟩) X.length c6) X.length (tokv X), pt b3 cz0 25, pt b1 cz0 25] _ := hM
               refine D.done ?_
               replace hA : St 303 [(2, _), (9, _), (10, _), (12, _), (14, _), (17, _)] a := hA.sub ((.cons rfl (.cons rfl (.cons rfl (.cons rfl (.cons rfl (.cons rfl .nil)))))))
               refine Ends.inBlock (Ends.region ?_)
               refine S.val hA (R.move rfl) rfl ?_; clear hA a; intro a hA
               refine S.val hA (R.addI rfl rfl (r := ((k : Int)) + 1) rfl (by first | omega | (rw [nmI_len]; omega) | (simp only [nmI_len]; omega))) rfl ?_; clear hA a; intro a hA
               refine S.val hA (R.assign rfl) rfl ?_; clear hA a; intro a hA
               refine S.done ?_
               rw [show ((itI X 3 k) ++ [((nmI X 2 q)).getD ((1 + 2 * k)) 0]) = itI X 3 (k + 1) by rw [nmI_at (by omega)]; rw [show vl X 2 (1 + 2 * k) = vl X 3 (2 * k) by unfold vl; congr 2; omega]; exact itI_snoc X 3 k, show ((itI X 4 k) ++ [((nmI X 2 q)).getD ((2 + 2 * k)) 0]) = itI X 4 (k + 1) by rw [nmI_at (by omega)]; rw [show vl X 2 (2 + 2 * k) = vl X 4 (2 * k) by unfold vl; congr 2; omega]; exact itI_snoc X 4 k] at hM
               exact hNext1 ((k + 1, a50, c51, a53, c54)) _ _ ((by show n - (k + 1) < n - k; omega)) ⟨hA.sub ((.cons rfl (.cons rfl (.cons rfl (.cons rfl (.cons rfl (.cons rfl .nil))))))), hM, (by omega)⟩
            ·
             refine D.eff hA rfl (R.loadI (hM.rsl (k := 2) rfl) sz3 rfl (by first | omega | (rw [nmI_len]; omega) | (simp only [nmI_len]; omega))) rfl ((((hM.drop 6).drop 4).drop 1).drop 0) ?_; clear hA a; intro a hA
             refine D.fork rfl rfl ?_ ?_
             ·
              refine D.buildSl (cells := #[.int .i64 (((nmI X 2 q)).getD ((1 + 2 * k)) 0)]) hA hM rfl Tryd.underlying22 info3 rfl rfl rfl rfl (by kernel_rfl) rfl ?_; clear hA hM a; intro b56 w43 hb57 hM; refine ⟨(fun hM => ((((hM.drop 6).drop 4).drop 1).drop 0)) hM.tail, fun a hA => ?_⟩
              replace hM : Mem _ _ [pt b56 #[.int .i64 (((nmI X 2 q)).getD ((1 + 2 * k)) 0)] 3, own 3 1 (.slice wa (((itI X 3 k)).length) wc) (((itI X 3 k)).length) (((itI X 3 k)).map (Value.int .i64)), own 3 1 (.slice va (((itI X 4 k)).length) vc) (((itI X 4 k)).length) (((itI X 4 k)).map (Value.int .i64)), own 3 1 (.slice na (((nmI X 2 q)).length) nc) (((nmI X 2 q)).length) (((nmI X 2 q)).map (Value.int .i64)), pt b15 #[.int .i64 1, .int .i64 ((n : Int)), .int .i64 ((X.getD 2 tz).n), .slice wa ((itI X 3 k).length) wc, .slice va ((itI X 4 k).length) vc, .slice none 0 0] 25, own 69 4 (.slice (some ⟨g8, 0, none⟩) X.length c6) X.length (tokv X), pt b3 cz0 25, pt b1 cz0 25] _ := hM
              refine D.fork rfl rfl ?_ ?_
              ·
               refine D.append (k := 1) (k2 := 0) hA hM rfl rfl rfl Tryd.underlying22 info3 rfl rfl rfl rfl rfl rfl rfl rfl rfl (by first | (rw [nmI_len]; first | (unfold maxLen; omega) | (show (q + 1) * 8 ≤ 140737488355328; omega)) | (rw [itI_len]; first | (unfold maxLen; omega) | (show (k + 1) * 8 ≤ 140737488355328; omega)) | (rw [hlr]; first | (unfold maxLen; omega) | (show (r + 1) * 24 ≤ 140737488355328; omega))) (by first | (rw [nmI_len]; first | (unfold maxLen; omega) | (show (q + 1) * 8 ≤ 140737488355328; omega)) | (rw [itI_len]; first | (unfold maxLen; omega) | (show (k + 1) * 8 ≤ 140737488355328; omega)) | (rw [hlr]; first | (unfold maxLen; omega) | (show (r + 1) * 24 ≤ 140737488355328; omega))) rfl ?_; clear hA hM a; intro a58 c59 w44 hM
               replace hM : Mem _ _ [pt b56 #[.int .i64 (((nmI X 2 q)).getD ((1 + 2 * k)) 0)] 3, own 3 1 (.slice a58 ((((itI X 3 k)).length) + 1) c59) ((((itI X 3 k)).length) + 1) (((itI X 3 k)).map (Value.int .i64) ++ [.int .i64 (((nmI X 2 q)).getD ((1 + 2 * k)) 0)]), own 3 1 (.slice va (((itI X 4 k)).length) vc) (((itI X 4 k)).length) (((itI X 4 k)).map (Value.int .i64)), own 3 1 (.slice na (((nmI X 2 q)).length) nc) (((nmI X 2 q)).length) (((nmI X 2 q)).map (Value.int .i64)), pt b15 #[.int .i64 1, .int .i64 ((n : Int)), .int .i64 ((X.getD 2 tz).n), .slice wa ((itI X 3 k).length) wc, .slice va ((itI X 4 k).length) vc, .slice none 0 0] 25, own 69 4 (.slice (some ⟨g8, 0, none⟩) X.length c6) X.length (tokv X), pt b3 cz0 25, pt b1 cz0 25] _ := hM
               have hl60 : (((itI X 3 k)).length) + 1 = ((itI X 3 k) ++ [((nmI X 2 q)).getD ((1 + 2 * k)) 0]).length := by simp
               rw [hl60, show ((itI X 3 k)).map (Value.int .i64) ++ [.int .i64 (((nmI X 2 q)).getD ((1 + 2 * k)) 0)] = ((itI X 3 k) ++ [((nmI X 2 q)).getD ((1 + 2 * k)) 0]).map (Value.int .i64) by simp] at hM
               replace hM := hM.drop 0
               replace hM : Mem _ _ [own 3 1 (.slice a58 ((((itI X 3 k) ++ [((nmI X 2 q)).getD ((1 + 2 * k)) 0])).length) c59) ((((itI X 3 k) ++ [((nmI X 2 q)).getD ((1 + 2 * k)) 0])).length) ((((itI X 3 k) ++ [((nmI X 2 q)).getD ((1 + 2 * k)) 0])).map (Value.int .i64)), own 3 1 (.slice va (((itI X 4 k)).length) vc) (((itI X 4 k)).length) (((itI X 4 k)).map (Value.int .i64)), own 3 1 (.slice na (((nmI X 2 q)).length) nc) (((nmI X 2 q)).length) (((nmI X 2 q)).map (Value.int .i64)), pt b15 #[.int .i64 1, .int .i64 ((n : Int)), .int .i64 ((X.getD 2 tz).n), .slice wa ((itI X 3 k).length) wc, .slice va ((itI X 4 k).length) vc, .slice none 0 0] 25, own 69 4 (.slice (some ⟨g8, 0, none⟩) X.length c6) X.length (tokv X), pt b3 cz0 25, pt b1 cz0 25] _ := hM
               refine ⟨((((hM.drop 6).drop 4).drop 1).drop 0), fun a hA => ?_⟩; rw [hl60] at hA; clear hl60
               refine D.valF hA rfl (fun _ => R.fieldAddr (q := 3) fi25_3 rfl rfl rfl) rfl ?_; clear hA a; intro a hA
               refine D.buildSl (cells := #[.int .i64 (((nmI X 2 q)).getD ((2 + 2 * k)) 0)]) hA hM rfl Tryd.underlying22 info3 rfl rfl rfl rfl (by kernel_rfl) rfl ?_; clear hA hM a; intro b61 w45 hb62 hM; refine ⟨(fun hM => ((((hM.drop 6).drop 4).drop 1).drop 0)) hM.tail, fun a hA => ?_⟩
               replace hM : Mem _ _ [pt b61 #[.int .i64 (((nmI X 2 q)).getD ((2 + 2 * k)) 0)] 3, own 3 1 (.slice a58 ((((itI X 3 k) ++ [((nmI X 2 q)).getD ((1 + 2 * k)) 0])).length) c59) ((((itI X 3 k) ++ [((nmI X 2 q)).getD ((1 + 2 * k)) 0])).length) ((((itI X 3 k) ++ [((nmI X 2 q)).getD ((1 + 2 * k)) 0])).map (Value.int .i64)), own 3 1 (.slice va (((itI X 4 k)).length) vc) (((itI X 4 k)).length) (((itI X 4 k)).map (Value.int .i64)), own 3 1 (.slice na (((nmI X 2 q)).length) nc) (((nmI X 2 q)).length) (((nmI X 2 q)).map (Value.int .i64)), pt b15 #[.int .i64 1, .int .i64 ((n : Int)), .int .i64 ((X.getD 2 tz).n), .slice wa ((itI X 3 k).length) wc, .slice va ((itI X 4 k).length) vc, .slice none 0 0] 25, own 69 4 (.slice (some ⟨g8, 0, none⟩) X.length c6) X.length (tokv X), pt b3 cz0 25, pt b1 cz0 25] _ := hM
               refine D.append (k := 2) (k2 := 0) hA hM rfl rfl rfl Tryd.underlying22 info3 rfl rfl rfl rfl rfl rfl rfl rfl rfl (by first | (rw [nmI_len]; first | (unfold maxLen; omega) | (show (q + 1) * 8 ≤ 140737488355328; omega)) | (rw [itI_len]; first | (unfold maxLen; omega) | (show (k + 1) * 8 ≤ 140737488355328; omega)) | (rw [hlr]; first | (unfold maxLen; omega) | (show (r + 1) * 24 ≤ 140737488355328; omega))) (by first | (rw [nmI_len]; first | (unfold maxLen; omega) | (show (q + 1) * 8 ≤ 140737488355328; omega)) | (rw [itI_len]; first | (unfold maxLen; omega) | (show (k + 1) * 8 ≤ 140737488355328; omega)) | (rw [hlr]; first | (unfold maxLen; omega) | (show (r + 1) * 24 ≤ 140737488355328; omega))) rfl ?_; clear hA hM a; intro a63 c64 w46 hM
               replace hM : Mem _ _ [pt b61 #[.int .i64 (((nmI X 2 q)).getD ((2 + 2 * k)) 0)] 3, own 3 1 (.slice a58 ((((itI X 3 k) ++ [((nmI X 2 q)).getD ((1 + 2 * k)) 0])).length) c59) ((((itI X 3 k) ++ [((nmI X 2 q)).getD ((1 + 2 * k)) 0])).length) ((((itI X 3 k) ++ [((nmI X 2 q)).getD ((1 + 2 * k)) 0])).map (Value.int .i64)), own 3 1 (.slice a63 ((((itI X 4 k)).length) + 1) c64) ((((itI X 4 k)).length) + 1) (((itI X 4 k)).map (Value.int .i64) ++ [.int .i64 (((nmI X 2 q)).getD ((2 + 2 * k)) 0)]), own 3 1 (.slice na (((nmI X 2 q)).length) nc) (((nmI X 2 q)).length) (((nmI X 2 q)).map (Value.int .i64)), pt b15 #[.int .i64 1, .int .i64 ((n : Int)), .int .i64 ((X.getD 2 tz).n), .slice wa ((itI X 3 k).length) wc, .slice va ((itI X 4 k).length) vc, .slice none 0 0] 25, own 69 4 (.slice (some ⟨g8, 0, none⟩) X.length c6) X.length (tokv X), pt b3 cz0 25, pt b1 cz0 25] _ := hM
               have hl65 : (((itI X 4 k)).length) + 1 = ((itI X 4 k) ++ [((nmI X 2 q)).getD ((2 + 2 * k)) 0]).length := by simp
               rw [hl65, show ((itI X 4 k)).map (Value.int .i64) ++ [.int .i64 (((nmI X 2 q)).getD ((2 + 2 * k)) 0)] = ((itI X 4 k) ++ [((nmI X 2 q)).getD ((2 + 2 * k)) 0]).map (Value.int .i64) by simp] at hM
               replace hM := hM.drop 0
               replace hM : Mem _ _ [own 3 1 (.slice a58 ((((itI X 3 k) ++ [((nmI X 2 q)).getD ((1 + 2 * k)) 0])).length) c59) ((((itI X 3 k) ++ [((nmI X 2 q)).getD ((1 + 2 * k)) 0])).length) ((((itI X 3 k) ++ [((nmI X 2 q)).getD ((1 + 2 * k)) 0])).map (Value.int .i64)), own 3 1 (.slice a63 ((((itI X 4 k) ++ [((nmI X 2 q)).getD ((2 + 2 * k)) 0])).length) c64) ((((itI X 4 k) ++ [((nmI X 2 q)).getD ((2 + 2 * k)) 0])).length) ((((itI X 4 k) ++ [((nmI X 2 q)).getD ((2 + 2 * k)) 0])).map (Value.int .i64)), own 3 1 (.slice na (((nmI X 2 q)).length) nc) (((nmI X 2 q)).length) (((nmI X 2 q)).map (Value.int .i64)), pt b15 #[.int .i64 1, .int .i64 ((n : Int)), .int .i64 ((X.getD 2 tz).n), .slice wa ((itI X 3 k).length) wc, .slice va ((itI X 4 k).length) vc, .slice none 0 0] 25, own 69 4 (.slice (some ⟨g8, 0, none⟩) X.length c6) X.length (tokv X), pt b3 cz0 25, pt b1 cz0 25] _ := hM
               refine ⟨((((hM.drop 6).drop 4).drop 1).drop 0), fun a hA => ?_⟩; rw [hl65] at hA; clear hl65
               refine D.store (k := 3) hA hM rfl sz22 rfl rfl rfl rfl rfl ?_; clear hM
               intro w47 hM; refine ⟨fun _ hne => absurd rfl hne, ?_⟩
               replace hM : Mem _ _ [own 3 1 (.slice a58 ((((itI X 3 k) ++ [((nmI X 2 q)).getD ((1 + 2 * k)) 0])).length) c59) ((((itI X 3 k) ++ [((nmI X 2 q)).getD ((1 + 2 * k)) 0])).length) ((((itI X 3 k) ++ [((nmI X 2 q)).getD ((1 + 2 * k)) 0])).map (Value.int .i64)), own 3 1 (.slice a63 ((((itI X 4 k) ++ [((nmI X 2 q)).getD ((2 + 2 * k)) 0])).length) c64) ((((itI X 4 k) ++ [((nmI X 2 q)).getD ((2 + 2 * k)) 0])).length) ((((itI X 4 k) ++ [((nmI X 2 q)).getD ((2 + 2 * k)) 0])).map (Value.int .i64)), own 3 1 (.slice na (((nmI X 2 q)).length) nc) (((nmI X 2 q)).length) (((nmI X 2 q)).map (Value.int .i64)), pt b15 #[.int .i64 1, .int .i64 ((n : Int)), .int .i64 ((X.getD 2 tz).n), .slice a58 ((((itI X 3 k) ++ [((nmI X 2 q)).getD ((1 + 2 * k)) 0])).length) c59, .slice va ((itI X 4 k).length) vc, .slice none 0 0] 25, own 69 4 (.slice (some ⟨g8, 0, none⟩) X.length c6) X.length (tokv X), pt b3 cz0 25, pt b1 cz0 25] _ := hM
               refine D.valF hA rfl (fun _ => R.fieldAddr (q := 4) fi25_4 rfl rfl rfl) rfl ?_; clear hA a; intro a hA
               refine D.store (k := 3) hA hM rfl sz22 rfl rfl rfl rfl rfl ?_; clear hM
               intro w48 hM; refine ⟨fun hb0 => absurd hb0 (by decide), ?_⟩
               replace hM : Mem _ _ [own 3 1 (.slice a58 ((((itI X 3 k) ++ [((nmI X 2 q)).getD ((1 + 2 * k)) 0])).length) c59) ((((itI X 3 k) ++ [((nmI X 2 q)).getD ((1 + 2 * k)) 0])).length) ((((itI X 3 k) ++ [((nmI X 2 q)).getD ((1 + 2 * k)) 0])).map (Value.int .i64)), own 3 1 (.slice a63 ((((itI X 4 k) ++ [((nmI X 2 q)).getD ((2 + 2 * k)) 0])).length) c64) ((((itI X 4 k) ++ [((nmI X 2 q)).getD ((2 + 2 * k)) 0])).length) ((((itI X 4 k) ++ [((nmI X 2 q)).getD ((2 + 2 * k)) 0])).map (Value.int .i64)), own 3 1 (.slice na (((nmI X 2 q)).length) nc) (((nmI X 2 q)).length) (((nmI X 2 q)).map (Value.int .i64)), pt b15 #[.int .i64 1, .int .i64 ((n : Int)), .int .i64 ((X.getD 2 tz).n), .slice a58 ((((itI X 3 k) ++ [((nmI X 2 q)).getD ((1 + 2 * k)) 0])).length) c59, .slice a63 ((((itI X 4 k) ++ [((nmI X 2 q)).getD ((2 + 2 * k)) 0])).length) c64, .slice none 0 0] 25, own 69 4 (.slice (some ⟨g8, 0, none⟩) X.length c6) X.length (tokv X), pt b3 cz0 25, pt b1 cz0 25] _ := hM
               refine D.done ?_
               replace hA : St 303 [(2, _), (9, _), (10, _), (12, _), (14, _), (17, _)] a := hA.sub ((.cons rfl (.cons rfl (.cons rfl (.cons rfl (.cons rfl (.cons rfl .nil)))))))
               refine Ends.inBlock (Ends.region ?_)
               refine S.val hA (R.move rfl) rfl ?_; clear hA a; intro a hA
               refine S.val hA (R.addI rfl rfl (r := ((k : Int)) + 1) rfl (by first | omega | (rw [nmI_len]; omega) | (simp only [nmI_len]; omega))) rfl ?_; clear hA a; intro a hA
               refine S.val hA (R.assign rfl) rfl ?_; clear hA a; intro a hA
               refine S.done ?_
               rw [show ((itI X 3 k) ++ [((nmI X 2 q)).getD ((1 + 2 * k)) 0]) = itI X 3 (k + 1) by rw [nmI_at (by omega)]; rw [show vl X 2 (1 + 2 * k) = vl X 3 (2 * k) by unfold vl; congr 2; omega]; exact itI_snoc X 3 k, show ((itI X 4 k) ++ [((nmI X 2 q)).getD ((2 + 2 * k)) 0]) = itI X 4 (k + 1) by rw [nmI_at (by omega)]; rw [show vl X 2 (2 + 2 * k) = vl X 4 (2 * k) by unfold vl; congr 2; omega]; exact itI_snoc X 4 k] at hM
               exact hNext1 ((k + 1, a58, c59, a63, c64)) _ _ ((by show n - (k + 1) < n - k; omega)) ⟨hA.sub ((.cons rfl (.cons rfl (.cons rfl (.cons rfl (.cons rfl (.cons rfl .nil))))))), hM, (by omega)⟩
              ·
               refine D.buildSl (cells := #[.int .i64 (((nmI X 2 q)).getD ((2 + 2 * k)) 0)]) hA hM rfl Tryd.underlying22 info3 rfl rfl rfl rfl (by kernel_rfl) rfl ?_; clear hA hM a; intro b66 w49 hb67 hM; refine ⟨(fun hM => (((((hM.drop 7).drop 5).drop 2).drop 1).drop 0)) hM.tail, fun a hA => ?_⟩
               replace hM : Mem _ _ [pt b66 #[.int .i64 (((nmI X 2 q)).getD ((2 + 2 * k)) 0)] 3, pt b56 #[.int .i64 (((nmI X 2 q)).getD ((1 + 2 * k)) 0)] 3, own 3 1 (.slice wa (((itI X 3 k)).length) wc) (((itI X 3 k)).length) (((itI X 3 k)).map (Value.int .i64)), own 3 1 (.slice va (((itI X 4 k)).length) vc) (((itI X 4 k)).length) (((itI X 4 k)).map (Value.int .i64)), own 3 1 (.slice na (((nmI X 2 q)).length) nc) (((nmI X 2 q)).length) (((nmI X 2 q)).map (Value.int .i64)), pt b15 #[.int .i64 1, .int .i64 ((n : Int)), .int .i64 ((X.getD 2 tz).n), .slice wa ((itI X 3 k).length) wc, .slice va ((itI X 4 k).length) vc, .slice none 0 0] 25, own 69 4 (.slice (some ⟨g8, 0, none⟩) X.length c6) X.length (tokv X), pt b3 cz0 25, pt b1 cz0 25] _ := hM
               refine D.append (k := 2) (k2 := 1) hA hM rfl rfl rfl Tryd.underlying22 info3 rfl rfl rfl rfl rfl rfl rfl rfl rfl (by first | (rw [nmI_len]; first | (unfold maxLen; omega) | (show (q + 1) * 8 ≤ 140737488355328; omega)) | (rw [itI_len]; first | (unfold maxLen; omega) | (show (k + 1) * 8 ≤ 140737488355328; omega)) | (rw [hlr]; first | (unfold maxLen; omega) | (show (r + 1) * 24 ≤ 140737488355328; omega))) (by first | (rw [nmI_len]; first | (unfold maxLen; omega) | (show (q + 1) * 8 ≤ 140737488355328; omega)) | (rw [itI_len]; first | (unfold maxLen; omega) | (show (k + 1) * 8 ≤ 140737488355328; omega)) | (rw [hlr]; first | (unfold maxLen; omega) | (show (r + 1) * 24 ≤ 140737488355328; omega))) rfl ?_; clear hA hM a; intro a68 c69 w50 hM
               replace hM : Mem _ _ [pt b66 #[.int .i64 (((nmI X 2 q)).getD ((2 + 2 * k)) 0)] 3, pt b56 #[.int .i64 (((nmI X 2 q)).getD ((1 + 2 * k)) 0)] 3, own 3 1 (.slice a68 ((((itI X 3 k)).length) + 1) c69) ((((itI X 3 k)).length) + 1) (((itI X 3 k)).map (Value.int .i64) ++ [.int .i64 (((nmI X 2 q)).getD ((1 + 2 * k)) 0)]), own 3 1 (.slice va (((itI X 4 k)).length) vc) (((itI X 4 k)).length) (((itI X 4 k)).map (Value.int .i64)), own 3 1 (.slice na (((nmI X 2 q)).length) nc) (((nmI X 2 q)).length) (((nmI X 2 q)).map (Value.int .i64)), pt b15 #[.int .i64 1, .int .i64 ((n : Int)), .int .i64 ((X.getD 2 tz).n), .slice wa ((itI X 3 k).length) wc, .slice va ((itI X 4 k).length) vc, .slice none 0 0] 25, own 69 4 (.slice (some ⟨g8, 0, none⟩) X.length c6) X.length (tokv X), pt b3 cz0 25, pt b1 cz0 25] _ := hM
               have hl70 : (((itI X 3 k)).length) + 1 = ((itI X 3 k) ++ [((nmI X 2 q)).getD ((1 + 2 * k)) 0]).length := by simp
               rw [hl70, show ((itI X 3 k)).map (Value.int .i64) ++ [.int .i64 (((nmI X 2 q)).getD ((1 + 2 * k)) 0)] = ((itI X 3 k) ++ [((nmI X 2 q)).getD ((1 + 2 * k)) 0]).map (Value.int .i64) by simp] at hM
               replace hM := hM.drop 1
               replace hM : Mem _ _ [pt b66 #[.int .i64 (((nmI X 2 q)).getD ((2 + 2 * k)) 0)] 3, own 3 1 (.slice a68 ((((itI X 3 k) ++ [((nmI X 2 q)).getD ((1 + 2 * k)) 0])).length) c69) ((((itI X 3 k) ++ [((nmI X 2 q)).getD ((1 + 2 * k)) 0])).length) ((((itI X 3 k) ++ [((nmI X 2 q)).getD ((1 + 2 * k)) 0])).map (Value.int .i64)), own 3 1 (.slice va (((itI X 4 k)).length) vc) (((itI X 4 k)).length) (((itI X 4 k)).map (Value.int .i64)), own 3 1 (.slice na (((nmI X 2 q)).length) nc) (((nmI X 2 q)).length) (((nmI X 2 q)).map (Value.int .i64)), pt b15 #[.int .i64 1, .int .i64 ((n : Int)), .int .i64 ((X.getD 2 tz).n), .slice wa ((itI X 3 k).length) wc, .slice va ((itI X 4 k).length) vc, .slice none 0 0] 25, own 69 4 (.slice (some ⟨g8, 0, none⟩) X.length c6) X.length (tokv X), pt b3 cz0 25, pt b1 cz0 25] _ := hM
               refine ⟨(((((hM.drop 7).drop 5).drop 2).drop 1).drop 0), fun a hA => ?_⟩; rw [hl70] at hA; clear hl70
               refine D.valF hA rfl (fun _ => R.fieldAddr (q := 3) fi25_3 rfl rfl rfl) rfl ?_; clear hA a; intro a hA
               refine D.append (k := 2) (k2 := 0) hA hM rfl rfl rfl Tryd.underlying22 info3 rfl rfl rfl rfl rfl rfl rfl rfl rfl (by first | (rw [nmI_len]; first | (unfold maxLen; omega) | (show (q + 1) * 8 ≤ 140737488355328; omega)) | (rw [itI_len]; first | (unfold maxLen; omega) | (show (k + 1) * 8 ≤ 140737488355328; omega)) | (rw [hlr]; first | (unfold maxLen; omega) | (show (r + 1) * 24 ≤ 140737488355328; omega))) (by first | (rw [nmI_len]; first | (unfold maxLen; omega) | (show (q + 1) * 8 ≤ 140737488355328; omega)) | (rw [itI_len]; first | (unfold maxLen; omega) | (show (k + 1) * 8 ≤ 140737488355328; omega)) | (rw [hlr]; first | (unfold maxLen; omega) | (show (r + 1) * 24 ≤ 140737488355328; omega))) rfl ?_; clear hA hM a; intro a71 c72 w51 hM
               replace hM : Mem _ _ [pt b66 #[.int .i64 (((nmI X 2 q)).getD ((2 + 2 * k)) 0)] 3, own 3 1 (.slice a68 ((((itI X 3 k) ++ [((nmI X 2 q)).getD ((1 + 2 * k)) 0])).length) c69) ((((itI X 3 k) ++ [((nmI X 2 q)).getD ((1 + 2 * k)) 0])).length) ((((itI X 3 k) ++ [((nmI X 2 q)).getD ((1 + 2 * k)) 0])).map (Value.int .i64)), own 3 1 (.slice a71 ((((itI X 4 k)).length) + 1) c72) ((((itI X 4 k)).length) + 1) (((itI X 4 k)).map (Value.int .i64) ++ [.int .i64 (((nmI X 2 q)).getD ((2 + 2 * k)) 0)]), own 3 1 (.slice na (((nmI X 2 q)).length) nc) (((nmI X 2 q)).length) (((nmI X 2 q)).map (Value.int .i64)), pt b15 #[.int .i64 1, .int .i64 ((n : Int)), .int .i64 ((X.getD 2 tz).n), .slice wa ((itI X 3 k).length) wc, .slice va ((itI X 4 k).length) vc, .slice none 0 0] 25, own 69 4 (.slice (some ⟨g8, 0, none⟩) X.length c6) X.length (tokv X), pt b3 cz0 25, pt b1 cz0 25] _ := hM
               have hl73 : (((itI X 4 k)).length) + 1 = ((itI X 4 k) ++ [((nmI X 2 q)).getD ((2 + 2 * k)) 0]).length := by simp
               rw [hl73, show ((itI X 4 k)).map (Value.int .i64) ++ [.int .i64 (((nmI X 2 q)).getD ((2 + 2 * k)) 0)] = ((itI X 4 k) ++ [((nmI X 2 q)).getD ((2 + 2 * k)) 0]).map (Value.int .i64) by simp] at hM
               replace hM := hM.drop 0
               replace hM : Mem _ _ [own 3 1 (.slice a68 ((((itI X 3 k) ++ [((nmI X 2 q)).getD ((1 + 2 * k)) 0])).length) c69) ((((itI X 3 k) ++ [((nmI X 2 q)).getD ((1 + 2 * k)) 0])).length) ((((itI X 3 k) ++ [((nmI X 2 q)).getD ((1 + 2 * k)) 0])).map (Value.int .i64)), own 3 1 (.slice a71 ((((itI X 4 k) ++ [((nmI X 2 q)).getD ((2 + 2 * k)) 0])).length) c72) ((((itI X 4 k) ++ [((nmI X 2 q)).getD ((2 + 2 * k)) 0])).length) ((((itI X 4 k) ++ [((nmI X 2 q)).getD ((2 + 2 * k)) 0])).map (Value.int .i64)), own 3 1 (.slice na (((nmI X 2 q)).length) nc) (((nmI X 2 q)).length) (((nmI X 2 q)).map (Value.int .i64)), pt b15 #[.int .i64 1, .int .i64 ((n : Int)), .int .i64 ((X.getD 2 tz).n), .slice wa ((itI X 3 k).length) wc, .slice va ((itI X 4 k).length) vc, .slice none 0 0] 25, own 69 4 (.slice (some ⟨g8, 0, none⟩) X.length c6) X.length (tokv X), pt b3 cz0 25, pt b1 cz0 25] _ := hM
               refine ⟨((((hM.drop 6).drop 4).drop 1).drop 0), fun a hA => ?_⟩; rw [hl73] at hA; clear hl73
               refine D.store (k := 3) hA hM rfl sz22 rfl rfl rfl rfl rfl ?_; clear hM
               intro w52 hM; refine ⟨fun _ hne => absurd rfl hne, ?_⟩
               replace hM : Mem _ _ [own 3 1 (.slice a68 ((((itI X 3 k) ++ [((nmI X 2 q)).getD ((1 + 2 * k)) 0])).length) c69) ((((itI X 3 k) ++ [((nmI X 2 q)).getD ((1 + 2 * k)) 0])).length) ((((itI X 3 k) ++ [((nmI X 2 q)).getD ((1 + 2 * k)) 0])).map (Value.int .i64)), own 3 1 (.slice a71 ((((itI X 4 k) ++ [((nmI X 2 q)).getD ((2 + 2 * k)) 0])).length) c72) ((((itI X 4 k) ++ [((nmI X 2 q)).getD ((2 + 2 * k)) 0])).length) ((((itI X 4 k) ++ [((nmI X 2 q)).getD ((2 + 2 * k)) 0])).map (Value.int .i64)), own 3 1 (.slice na (((nmI X 2 q)).length) nc) (((nmI X 2 q)).length) (((nmI X 2 q)).map (Value.int .i64)), pt b15 #[.int .i64 1, .int .i64 ((n : Int)), .int .i64 ((X.getD 2 tz).n), .slice a68 ((((itI X 3 k) ++ [((nmI X 2 q)).getD ((1 + 2 * k)) 0])).length) c69, .slice va ((itI X 4 k).length) vc, .slice none 0 0] 25, own 69 4 (.slice (some ⟨g8, 0, none⟩) X.length c6) X.length (tokv X), pt b3 cz0 25, pt b1 cz0 25] _ := hM
               refine D.valF hA rfl (fun _ => R.fieldAddr (q := 4) fi25_4 rfl rfl rfl) rfl ?_; clear hA a; intro a hA
               refine D.store (k := 3) hA hM rfl sz22 rfl rfl rfl rfl rfl ?_; clear hM
               intro w53 hM; refine ⟨fun hb0 => absurd hb0 (by decide), ?_⟩
               replace hM : Mem _ _ [own 3 1 (.slice a68 ((((itI X 3 k) ++ [((nmI X 2 q)).getD ((1 + 2 * k)) 0])).length) c69) ((((itI X 3 k) ++ [((nmI X 2 q)).getD ((1 + 2 * k)) 0])).length) ((((itI X 3 k) ++ [((nmI X 2 q)).getD ((1 + 2 * k)) 0])).map (Value.int .i64)), own 3 1 (.slice a71 ((((itI X 4 k) ++ [((nmI X 2 q)).getD ((2 + 2 * k)) 0])).length) c72) ((((itI X 4 k) ++ [((nmI X 2 q)).getD ((2 + 2 * k)) 0])).length) ((((itI X 4 k) ++ [((nmI X 2 q)).getD ((2 + 2 * k)) 0])).map (Value.int .i64)), own 3 1 (.slice na (((nmI X 2 q)).length) nc) (((nmI X 2 q)).length) (((nmI X 2 q)).map (Value.int .i64)), pt b15 #[.int .i64 1, .int .i64 ((n : Int)), .int .i64 ((X.getD 2 tz).n), .slice a68 ((((itI X 3 k) ++ [((nmI X 2 q)).getD ((1 + 2 * k)) 0])).length) c69, .slice a71 ((((itI X 4 k) ++ [((nmI X 2 q)).getD ((2 + 2 * k)) 0])).length) c72, .slice none 0 0] 25, own 69 4 (.slice (some ⟨g8, 0, none⟩) X.length c6) X.length (tokv X), pt b3 cz0 25, pt b1 cz0 25] _ := hM
               refine D.done ?_
               replace hA : St 303 [(2, _), (9, _), (10, _), (12, _), (14, _), (17, _)] a := hA.sub ((.cons rfl (.cons rfl (.cons rfl (.cons rfl (.cons rfl (.cons rfl .nil)))))))
               refine Ends.inBlock (Ends.region ?_)
               refine S.val hA (R.move rfl) rfl ?_; clear hA a; intro a hA
               refine S.val hA (R.addI rfl rfl (r := ((k : Int)) + 1) rfl (by first | omega | (rw [nmI_len]; omega) | (simp only [nmI_len]; omega))) rfl ?_; clear hA a; intro a hA
               refine S.val hA (R.assign rfl) rfl ?_; clear hA a; intro a hA
               refine S.done ?_
               rw [show ((itI X 3 k) ++ [((nmI X 2 q)).getD ((1 + 2 * k)) 0]) = itI X 3 (k + 1) by rw [nmI_at (by omega)]; rw [show vl X 2 (1 + 2 * k) = vl X 3 (2 * k) by unfold vl; congr 2; omega]; exact itI_snoc X 3 k, show ((itI X 4 k) ++ [((nmI X 2 q)).getD ((2 + 2 * k)) 0]) = itI X 4 (k + 1) by rw [nmI_at (by omega)]; rw [show vl X 2 (2 + 2 * k) = vl X 4 (2 * k) by unfold vl; congr 2; omega]; exact itI_snoc X 4 k] at hM
               exact hNext1 ((k + 1, a68, c69, a71, c72)) _ _ ((by show n - (k + 1) < n - k; omega)) ⟨hA.sub ((.cons rfl (.cons rfl (.cons rfl (.cons rfl (.cons rfl (.cons rfl .nil))))))), hM, (by omega)⟩
             ·
              refine D.buildSl (cells := #[.int .i64 (((nmI X 2 q)).getD ((2 + 2 * k)) 0)]) hA hM rfl Tryd.underlying22 info3 rfl rfl rfl rfl (by kernel_rfl) rfl ?_; clear hA hM a; intro b74 w54 hb75 hM; refine ⟨(fun hM => ((((hM.drop 6).drop 4).drop 1).drop 0)) hM.tail, fun a hA => ?_⟩
              replace hM : Mem _ _ [pt b74 #[.int .i64 (((nmI X 2 q)).getD ((2 + 2 * k)) 0)] 3, own 3 1 (.slice wa (((itI X 3 k)).length) wc) (((itI X 3 k)).length) (((itI X 3 k)).map (Value.int .i64)), own 3 1 (.slice va (((itI X 4 k)).length) vc) (((itI X 4 k)).length) (((itI X 4 k)).map (Value.int .i64)), own 3 1 (.slice na (((nmI X 2 q)).length) nc) (((nmI X 2 q)).length) (((nmI X 2 q)).map (Value.int .i64)), pt b15 #[.int .i64 1, .int .i64 ((n : Int)), .int .i64 ((X.getD 2 tz).n), .slice wa ((itI X 3 k).length) wc, .slice va ((itI X 4 k).length) vc, .slice none 0 0] 25, own 69 4 (.slice (some ⟨g8, 0, none⟩) X.length c6) X.length (tokv X), pt b3 cz0 25, pt b1 cz0 25] _ := hM
              refine D.buildSl (cells := #[.int .i64 (((nmI X 2 q)).getD ((1 + 2 * k)) 0)]) hA hM rfl Tryd.underlying22 info3 rfl rfl rfl rfl (by kernel_rfl) rfl ?_; clear hA hM a; intro b76 w55 hb77 hM; refine ⟨(fun hM => (((((hM.drop 7).drop 5).drop 2).drop 1).drop 0)) hM.tail, fun a hA => ?_⟩
              replace hM : Mem _ _ [pt b76 #[.int .i64 (((nmI X 2 q)).getD ((1 + 2 * k)) 0)] 3, pt b74 #[.int .i64 (((nmI X 2 q)).getD ((2 + 2 * k)) 0)] 3, own 3 1 (.slice wa (((itI X 3 k)).length) wc) (((itI X 3 k)).length) (((itI X 3 k)).map (Value.int .i64)), own 3 1 (.slice va (((itI X 4 k)).length) vc) (((itI X 4 k)).length) (((itI X 4 k)).map (Value.int .i64)), own 3 1 (.slice na (((nmI X 2 q)).length) nc) (((nmI X 2 q)).length) (((nmI X 2 q)).map (Value.int .i64)), pt b15 #[.int .i64 1, .int .i64 ((n : Int)), .int .i64 ((X.getD 2 tz).n), .slice wa ((itI X 3 k).length) wc, .slice va ((itI X 4 k).length) vc, .slice none 0 0] 25, own 69 4 (.slice (some ⟨g8, 0, none⟩) X.length c6) X.length (tokv X), pt b3 cz0 25, pt b1 cz0 25] _ := hM
              refine D.append (k := 2) (k2 := 0) hA hM rfl rfl rfl Tryd.underlying22 info3 rfl rfl rfl rfl rfl rfl rfl rfl rfl (by first | (rw [nmI_len]; first | (unfold maxLen; omega) | (show (q + 1) * 8 ≤ 140737488355328; omega)) | (rw [itI_len]; first | (unfold maxLen; omega) | (show (k + 1) * 8 ≤ 140737488355328; omega)) | (rw [hlr]; first | (unfold maxLen; omega) | (show (r + 1) * 24 ≤ 140737488355328; omega))) (by first | (rw [nmI_len]; first | (unfold maxLen; omega) | (show (q + 1) * 8 ≤ 140737488355328; omega)) | (rw [itI_len]; first | (unfold maxLen; omega) | (show (k + 1) * 8 ≤ 140737488355328; omega)) | (rw [hlr]; first | (unfold maxLen; omega) | (show (r + 1) * 24 ≤ 140737488355328; omega))) rfl ?_; clear hA hM a; intro a78 c79 w56 hM
              replace hM : Mem _ _ [pt b76 #[.int .i64 (((nmI X 2 q)).getD ((1 + 2 * k)) 0)] 3, pt b74 #[.int .i64 (((nmI X 2 q)).getD ((2 + 2 * k)) 0)] 3, own 3 1 (.slice a78 ((((itI X 3 k)).length) + 1) c79) ((((itI X 3 k)).length) + 1) (((itI X 3 k)).map (Value.int .i64) ++ [.int .i64 (((nmI X 2 q)).getD ((1 + 2 * k)) 0)]), own 3 1 (.slice va (((itI X 4 k)).length) vc) (((itI X 4 k)).length) (((itI X 4 k)).map (Value.int .i64)), own 3 1 (.slice na (((nmI X 2 q)).length) nc) (((nmI X 2 q)).length) (((nmI X 2 q)).map (Value.int .i64)), pt b15 #[.int .i64 1, .int .i64 ((n : Int)), .int .i64 ((X.getD 2 tz).n), .slice wa ((itI X 3 k).length) wc, .slice va ((itI X 4 k).length) vc, .slice none 0 0] 25, own 69 4 (.slice (some ⟨g8, 0, none⟩) X.length c6) X.length (tokv X), pt b3 cz0 25, pt b1 cz0 25] _ := hM
              have hl80 : (((itI X 3 k)).length) + 1 = ((itI X 3 k) ++ [((nmI X 2 q)).getD ((1 + 2 * k)) 0]).length := by simp
              rw [hl80, show ((itI X 3 k)).map (Value.int .i64) ++ [.int .i64 (((nmI X 2 q)).getD ((1 + 2 * k)) 0)] = ((itI X 3 k) ++ [((nmI X 2 q)).getD ((1 + 2 * k)) 0]).map (Value.int .i64) by simp] at hM
              replace hM := hM.drop 0
              replace hM : Mem _ _ [pt b74 #[.int .i64 (((nmI X 2 q)).getD ((2 + 2 * k)) 0)] 3, own 3 1 (.slice a78 ((((itI X 3 k) ++ [((nmI X 2 q)).getD ((1 + 2 * k)) 0])).length) c79) ((((itI X 3 k) ++ [((nmI X 2 q)).getD ((1 + 2 * k)) 0])).length) ((((itI X 3 k) ++ [((nmI X 2 q)).getD ((1 + 2 * k)) 0])).map (Value.int .i64)), own 3 1 (.slice va (((itI X 4 k)).length) vc) (((itI X 4 k)).length) (((itI X 4 k)).map (Value.int .i64)), own 3 1 (.slice na (((nmI X 2 q)).length) nc) (((nmI X 2 q)).length) (((nmI X 2 q)).map (Value.int .i64)), pt b15 #[.int .i64 1, .int .i64 ((n : Int)), .int .i64 ((X.getD 2 tz).n), .slice wa ((itI X 3 k).length) wc, .slice va ((itI X 4 k).length) vc, .slice none 0 0] 25, own 69 4 (.slice (some ⟨g8, 0, none⟩) X.length c6) X.length (tokv X), pt b3 cz0 25, pt b1 cz0 25] _ := hM
              refine ⟨(((((hM.drop 7).drop 5).drop 2).drop 1).drop 0), fun a hA => ?_⟩; rw [hl80] at hA; clear hl80
              refine D.valF hA rfl (fun _ => R.fieldAddr (q := 3) fi25_3 rfl rfl rfl) rfl ?_; clear hA a; intro a hA
              refine D.append (k := 2) (k2 := 0) hA hM rfl rfl rfl Tryd.underlying22 info3 rfl rfl rfl rfl rfl rfl rfl rfl rfl (by first | (rw [nmI_len]; first | (unfold maxLen; omega) | (show (q + 1) * 8 ≤ 140737488355328; omega)) | (rw [itI_len]; first | (unfold maxLen; omega) | (show (k + 1) * 8 ≤ 140737488355328; omega)) | (rw [hlr]; first | (unfold maxLen; omega) | (show (r + 1) * 24 ≤ 140737488355328; omega))) (by first | (rw [nmI_len]; first | (unfold maxLen; omega) | (show (q + 1) * 8 ≤ 140737488355328; omega)) | (rw [itI_len]; first | (unfold maxLen; omega) | (show (k + 1) * 8 ≤ 140737488355328; omega)) | (rw [hlr]; first | (unfold maxLen; omega) | (show (r + 1) * 24 ≤ 140737488355328; omega))) rfl ?_; clear hA hM a; intro a81 c82 w57 hM
              replace hM : Mem _ _ [pt b74 #[.int .i64 (((nmI X 2 q)).getD ((2 + 2 * k)) 0)] 3, own 3 1 (.slice a78 ((((itI X 3 k) ++ [((nmI X 2 q)).getD ((1 + 2 * k)) 0])).length) c79) ((((itI X 3 k) ++ [((nmI X 2 q)).getD ((1 + 2 * k)) 0])).length) ((((itI X 3 k) ++ [((nmI X 2 q)).getD ((1 + 2 * k)) 0])).map (Value.int .i64)), own 3 1 (.slice a81 ((((itI X 4 k)).length) + 1) c82) ((((itI X 4 k)).length) + 1) (((itI X 4 k)).map (Value.int .i64) ++ [.int .i64 (((nmI X 2 q)).getD ((2 + 2 * k)) 0)]), own 3 1 (.slice na (((nmI X 2 q)).length) nc) (((nmI X 2 q)).length) (((nmI X 2 q)).map (Value.int .i64)), pt b15 #[.int .i64 1, .int .i64 ((n : Int)), .int .i64 ((X.getD 2 tz).n), .slice wa ((itI X 3 k).length) wc, .slice va ((itI X 4 k).length) vc, .slice none 0 0] 25, own 69 4 (.slice (some ⟨g8, 0, none⟩) X.length c6) X.length (tokv X), pt b3 cz0 25, pt b1 cz0 25] _ := hM
              have hl83 : (((itI X 4 k)).length) + 1 = ((itI X 4 k) ++ [((nmI X 2 q)).getD ((2 + 2 * k)) 0]).length := by simp
              rw [hl83, show ((itI X 4 k)).map (Value.int .i64) ++ [.int .i64 (((nmI X 2 q)).getD ((2 + 2 * k)) 0)] = ((itI X 4 k) ++ [((nmI X 2 q)).getD ((2 + 2 * k)) 0]).map (Value.int .i64) by simp] at hM
              replace hM := hM.drop 0
              replace hM : Mem _ _ [own 3 1 (.slice a78 ((((itI X 3 k) ++ [((nmI X 2 q)).getD ((1 + 2 * k)) 0])).length) c79) ((((itI X 3 k) ++ [((nmI X 2 q)).getD ((1 + 2 * k)) 0])).length) ((((itI X 3 k) ++ [((nmI X 2 q)).getD ((1 + 2 * k)) 0])).map (Value.int .i64)), own 3 1 (.slice a81 ((((itI X 4 k) ++ [((nmI X 2 q)).getD ((2 + 2 * k)) 0])).length) c82) ((((itI X 4 k) ++ [((nmI X 2 q)).getD ((2 + 2 * k)) 0])).length) ((((itI X 4 k) ++ [((nmI X 2 q)).getD ((2 + 2 * k)) 0])).map (Value.int .i64)), own 3 1 (.slice na (((nmI X 2 q)).length) nc) (((nmI X 2 q)).length) (((nmI X 2 q)).map (Value.int .i64)), pt b15 #[.int .i64 1, .int .i64 ((n : Int)), .int .i64 ((X.getD 2 tz).n), .slice wa ((itI X 3 k).length) wc, .slice va ((itI X 4 k).length) vc, .slice none 0 0] 25, own 69 4 (.slice (some ⟨g8, 0, none⟩) X.length c6) X.length (tokv X), pt b3 cz0 25, pt b1 cz0 25] _ := hM
              refine ⟨((((hM.drop 6).drop 4).drop 1).drop 0), fun a hA => ?_⟩; rw [hl83] at hA; clear hl83
              refine D.store (k := 3) hA hM rfl sz22 rfl rfl rfl rfl rfl ?_; clear hM
              intro w58 hM; refine ⟨fun _ hne => absurd rfl hne, ?_⟩
              replace hM : Mem _ _ [own 3 1 (.slice a78 ((((itI X 3 k) ++ [((nmI X 2 q)).getD ((1 + 2 * k)) 0])).length) c79) ((((itI X 3 k) ++ [((nmI X 2 q)).getD ((1 + 2 * k)) 0])).length) ((((itI X 3 k) ++ [((nmI X 2 q)).getD ((1 + 2 * k)) 0])).map (Value.int .i64)), own 3 1 (.slice a81 ((((itI X 4 k) ++ [((nmI X 2 q)).getD ((2 + 2 * k)) 0])).length) c82) ((((itI X 4 k) ++ [((nmI X 2 q)).getD ((2 + 2 * k)) 0])).length) ((((itI X 4 k) ++ [((nmI X 2 q)).getD ((2 + 2 * k)) 0])).map (Value.int .i64)), own 3 1 (.slice na (((nmI X 2 q)).length) nc) (((nmI X 2 q)).length) (((nmI X 2 q)).map (Value.int .i64)), pt b15 #[.int .i64 1, .int .i64 ((n : Int)), .int .i64 ((X.getD 2 tz).n), .slice a78 ((((itI X 3 k) ++ [((nmI X 2 q)).getD ((1 + 2 * k)) 0])).length) c79, .slice va ((itI X 4 k).length) vc, .slice none 0 0] 25, own 69 4 (.slice (some ⟨g8, 0, none⟩) X.length c6) X.length (tokv X), pt b3 cz0 25, pt b1 cz0 25] _ := hM
              refine D.valF hA rfl (fun _ => R.fieldAddr (q := 4) fi25_4 rfl rfl rfl) rfl ?_; clear hA a; intro a hA
              refine D.store (k := 3) hA hM rfl sz22 rfl rfl rfl rfl rfl ?_; clear hM
              intro w59 hM; refine ⟨fun hb0 => absurd hb0 (by decide), ?_⟩
              replace hM : Mem _ _ [own 3 1 (.slice a78 ((((itI X 3 k) ++ [((nmI X 2 q)).getD ((1 + 2 * k)) 0])).length) c79) ((((itI X 3 k) ++ [((nmI X 2 q)).getD ((1 + 2 * k)) 0])).length) ((((itI X 3 k) ++ [((nmI X 2 q)).getD ((1 + 2 * k)) 0])).map (Value.int .i64)), own 3 1 (.slice a81 ((((itI X 4 k) ++ [((nmI X 2 q)).getD ((2 + 2 * k)) 0])).length) c82) ((((itI X 4 k) ++ [((nmI X 2 q)).getD ((2 + 2 * k)) 0])).length) ((((itI X 4 k) ++ [((nmI X 2 q)).getD ((2 + 2 * k)) 0])).map (Value.int .i64)), own 3 1 (.slice na (((nmI X 2 q)).length) nc) (((nmI X 2 q)).length) (((nmI X 2 q)).map (Value.int .i64)), pt b15 #[.int .i64 1, .int .i64 ((n : Int)), .int .i64 ((X.getD 2 tz).n), .slice a78 ((((itI X 3 k) ++ [((nmI X 2 q)).getD ((1 + 2 * k)) 0])).length) c79, .slice a81 ((((itI X 4 k) ++ [((nmI X 2 q)).getD ((2 + 2 * k)) 0])).length) c82, .slice none 0 0] 25, own 69 4 (.slice (some ⟨g8, 0, none⟩) X.length c6) X.length (tokv X), pt b3 cz0 25, pt b1 cz0 25] _ := hM
              refine D.done ?_
              replace hA : St 303 [(2, _), (9, _), (10, _), (12, _), (14, _), (17, _)] a := hA.sub ((.cons rfl (.cons rfl (.cons rfl (.cons rfl (.cons rfl (.cons rfl .nil)))))))
              refine Ends.inBlock (Ends.region ?_)
              refine S.val hA (R.move rfl) rfl ?_; clear hA a; intro a hA
              refine S.val hA (R.addI rfl rfl (r := ((k : Int)) + 1) rfl (by first | omega | (rw [nmI_len]; omega) | (simp only [nmI_len]; omega))) rfl ?_; clear hA a; intro a hA
              refine S.val hA (R.assign rfl) rfl ?_; clear hA a; intro a hA
              refine S.done ?_
              rw [show ((itI X 3 k) ++ [((nmI X 2 q)).getD ((1 + 2 * k)) 0]) = itI X 3 (k + 1) by rw [nmI_at (by omega)]; rw [show vl X 2 (1 + 2 * k) = vl X 3 (2 * k) by unfold vl; congr 2; omega]; exact itI_snoc X 3 k, show ((itI X 4 k) ++ [((nmI X 2 q)).getD ((2 + 2 * k)) 0]) = itI X 4 (k + 1) by rw [nmI_at (by omega)]; rw [show vl X 2 (2 + 2 * k) = vl X 4 (2 * k) by unfold vl; congr 2; omega]; exact itI_snoc X 4 k] at hM
              exact hNext1 ((k + 1, a78, c79, a81, c82)) _ _ ((by show n - (k + 1) < n - k; omega)) ⟨hA.sub ((.cons rfl (.cons rfl (.cons rfl (.cons rfl (.cons rfl (.cons rfl .nil))))))), hM, (by omega)⟩
           ·
            refine Ends.exit rfl ?_
            replace hA : St 303 [(2, _), (9, _), (10, _), (12, _), (14, _)] a := hA.sub ((.cons rfl (.cons rfl (.cons rfl (.cons rfl (.cons rfl .nil))))))
            refine Ends.seq (Ends.region ?_)
            refine S.val hA (R.loadA sz25 rfl (hM.range (k := 3) rfl) rfl) rfl ?_; clear hA a; intro a hA
            refine S.storeA (k := 6) hA hM sz25 rfl rfl rfl rfl rfl rfl ?_; clear hM
            intro w60 hM
            replace hM : Mem _ _ [own 3 1 (.slice wa (((itI X 3 k)).length) wc) (((itI X 3 k)).length) (((itI X 3 k)).map (Value.int .i64)), own 3 1 (.slice va (((itI X 4 k)).length) vc) (((itI X 4 k)).length) (((itI X 4 k)).map (Value.int .i64)), own 3 1 (.slice na (((nmI X 2 q)).length) nc) (((nmI X 2 q)).length) (((nmI X 2 q)).map (Value.int .i64)), pt b15 #[.int .i64 1, .int .i64 ((n : Int)), .int .i64 ((X.getD 2 tz).n), .slice wa ((itI X 3 k).length) wc, .slice va ((itI X 4 k).length) vc, .slice none 0 0] 25, own 69 4 (.slice (some ⟨g8, 0, none⟩) X.length c6) X.length (tokv X), pt b3 cz0 25, pt b1 #[.int .i64 1, .int .i64 ((n : Int)), .int .i64 ((X.getD 2 tz).n), .slice wa ((itI X 3 k).length) wc, .slice va ((itI X 4 k).length) vc, .slice none 0 0] 25] _ := hM
            refine S.val hA (R.assign rfl) rfl ?_; clear hA a; intro a hA
            refine S.val hA (R.assign rfl) rfl ?_; clear hA a; intro a hA
            refine S.done ?_
            refine Ends.retC3 (k := 6) Tryd.func29 Tryd.results29 hA hM rfl rfl rfl rfl sz25 rfl ?_
            have hkn : k = n := by omega
            subst hkn
            have g3 := hM.rsl (k := 0) rfl
            have g4 := hM.rsl (k := 1) rfl
            rw [prs_ok' hse hs0 hpbE (pb_it hw0 hcn)]
            exact ⟨_, _, _, _, none, 0, rfl, ⟨g3, g4, RowsV.nil _⟩, Mem.trans0 hbs hM.nilL⟩
   ·
    refine Ends.region ?_
    refine S.val hA (R.move rfl) rfl ?_; clear hA a; intro a hA
    refine S.val hA (R.indexAddr (q := 0 * 4) sl65 rfl rfl (by first | omega | (rw [nmI_len]; omega) | (simp only [nmI_len]; omega)) (by first | omega | (rw [nmI_len]; omega) | (simp only [nmI_len]; omega))) rfl ?_; clear hA a; intro a hA
    refine S.val hA (R.fieldAddr (q := 0 * 4 + 0) fi69_0 rfl rfl rfl) rfl ?_; clear hA a; intro a hA
    refine S.val hA (R.load sz3 rfl (hM.tokRow (k := 0) rfl (i := 0) (by omega) 0 _ rfl)) rfl ?_; clear hA a; intro a hA
    refine S.val hA (R.eql rfl rfl) rfl ?_; clear hA a; intro a hA
    refine S.val hA (R.move rfl) rfl ?_; clear hA a; intro a hA
    refine hA.split (d := 53) rfl ?_ ?_
    ·
     clear hA; intro hg84 hA
     refine S.no (dj := 53) hA (by kernel_rfl) rfl rfl rfl ?_; clear hA a; intro a hA
     refine S.no (dj := 53) hA (by kernel_rfl) rfl rfl rfl ?_; clear hA a; intro a hA
     refine S.no (dj := 53) hA (by kernel_rfl) rfl rfl rfl ?_; clear hA a; intro a hA
     refine S.noU (dj := 56) hA (by kernel_rfl) rfl rfl ?_; clear hA a; intro a hA
     refine S.noU (dj := 56) hA (by kernel_rfl) rfl rfl ?_; clear hA a; intro a hA
     refine S.no (dj := 53) hA (by kernel_rfl) rfl rfl rfl ?_; clear hA a; intro a hA
     refine S.no (dj := 53) hA (by kernel_rfl) rfl rfl rfl ?_; clear hA a; intro a hA
     refine S.noU (dj := 60) hA (by kernel_rfl) rfl rfl ?_; clear hA a; intro a hA
     refine S.noU (dj := 60) hA (by kernel_rfl) rfl rfl ?_; clear hA a; intro a hA
     refine S.no (dj := 53) hA (by kernel_rfl) rfl rfl rfl ?_; clear hA a; intro a hA
     refine S.val hA (R.pickT rfl rfl) rfl ?_; clear hA a; intro a hA
     refine S.done ?_
     replace hA : St 303 [(2, _), (5, _), (6, _), (9, _), (64, _)] a := hA.sub ((.cons rfl (.cons rfl (.cons rfl (.cons rfl (.cons rfl .nil))))))
     exact hJ _ _ ⟨hA.sub (.cons rfl (.cons rfl (.cons rfl (.cons rfl (.cons (by first | rfl | exact congrArg (fun b => some (Value.bool b)) (by first | exact decide_eq_decide.2 (by omega) | exact or_bool (by omega) | exact and_bool (by omega) | (simp; done) | (simp [hg84]; done) | (have h80 := hg84; (try simp at h80); simp [h80]; done) | exact (decide_eq_false (fun h9 => hg84 h9.1)).symm)) .nil))))), hM⟩
    ·
     clear hA; intro hg84 hA
     refine S.valg (dj := 53) hA (by kernel_rfl) rfl (R.move rfl) rfl ?_; clear hA a; intro a hA
     refine S.valg (dj := 53) hA (by kernel_rfl) rfl (R.neqStr rfl rfl) rfl ?_; clear hA a; intro a hA
     refine S.valg (dj := 53) hA (by kernel_rfl) rfl (R.move rfl) rfl ?_; clear hA a; intro a hA
     refine hA.split (d := 56) rfl ?_ ?_
     ·
      clear hA; intro hg85 hA
      refine S.valg (dj := 56) hA (by kernel_rfl) rfl (R.move rfl) rfl ?_; clear hA a; intro a hA
      refine S.valg (dj := 56) hA (by kernel_rfl) rfl (R.neqStr rfl rfl) rfl ?_; clear hA a; intro a hA
      refine S.valg (dj := 53) hA (by kernel_rfl) rfl (R.pickT rfl rfl) rfl ?_; clear hA a; intro a hA
      refine S.valg (dj := 53) hA (by kernel_rfl) rfl (R.move rfl) rfl ?_; clear hA a; intro a hA
      refine hA.split (d := 60) rfl ?_ ?_
      ·
       clear hA; intro hg86 hA
       refine S.valg (dj := 60) hA (by kernel_rfl) rfl (R.move rfl) rfl ?_; clear hA a; intro a hA
       refine S.valg (dj := 60) hA (by kernel_rfl) rfl (R.neqStr rfl rfl) rfl ?_; clear hA a; intro a hA
       refine S.valg (dj := 53) hA (by kernel_rfl) rfl (R.pickT rfl rfl) rfl ?_; clear hA a; intro a hA
       refine S.val hA (R.pickF rfl rfl) rfl ?_; clear hA a; intro a hA
       refine S.done ?_
       replace hA : St 303 [(2, _), (5, _), (6, _), (9, _), (64, _)] a := hA.sub ((.cons rfl (.cons rfl (.cons rfl (.cons rfl (.cons rfl .nil))))))
       exact hJ _ _ ⟨hA.sub (.cons rfl (.cons rfl (.cons rfl (.cons rfl (.cons (by first | rfl | exact congrArg (fun b => some (Value.bool b)) (by first | exact decide_eq_decide.2 (by omega) | exact or_bool (by omega) | exact and_bool (by omega) | (simp; done) | (simp [hg84, hg85, hg86]; done) | (have h80 := hg84; (try simp at h80); have h81 := hg85; (try simp at h81); have h82 := hg86; (try simp at h82); simp [h80, h81, h82]; done) | exact (decide_eq_false (fun h9 => hg84 h9.1)).symm | exact (decide_eq_false (fun h9 => hg85 h9.1)).symm | exact (decide_eq_false (fun h9 => hg86 h9.1)).symm)) .nil))))), hM⟩
      ·
       clear hA; intro hg86 hA
       refine S.no (dj := 60) hA (by kernel_rfl) rfl rfl rfl ?_; clear hA a; intro a hA
       refine S.no (dj := 60) hA (by kernel_rfl) rfl rfl rfl ?_; clear hA a; intro a hA
       refine S.valg (dj := 53) hA (by kernel_rfl) rfl (R.pickF rfl rfl) rfl ?_; clear hA a; intro a hA
       refine S.val hA (R.pickF rfl rfl) rfl ?_; clear hA a; intro a hA
       refine S.done ?_
       replace hA : St 303 [(2, _), (5, _), (6, _), (9, _), (64, _)] a := hA.sub ((.cons rfl (.cons rfl (.cons rfl (.cons rfl (.cons rfl .nil))))))
       exact hJ _ _ ⟨hA.sub (.cons rfl (.cons rfl (.cons rfl (.cons rfl (.cons (by first | rfl | exact congrArg (fun b => some (Value.bool b)) (by first | exact decide_eq_decide.2 (by omega) | exact or_bool (by omega) | exact and_bool (by omega) | (simp; done) | (simp [hg84, hg85, hg86]; done) | (have h80 := hg84; (try simp at h80); have h81 := hg85; (try simp at h81); have h82 := hg86; (try simp at h82); simp [h80, h81, h82]; done) | exact (decide_eq_false (fun h9 => hg84 h9.1)).symm | exact (decide_eq_false (fun h9 => hg85 h9.1)).symm | exact (decide_eq_false (fun h9 => hg86 h9.1)).symm)) .nil))))), hM⟩
     ·
      clear hA; intro hg85 hA
      refine S.no (dj := 56) hA (by kernel_rfl) rfl rfl rfl ?_; clear hA a; intro a hA
      refine S.no (dj := 56) hA (by kernel_rfl) rfl rfl rfl ?_; clear hA a; intro a hA
      refine S.valg (dj := 53) hA (by kernel_rfl) rfl (R.pickF rfl rfl) rfl ?_; clear hA a; intro a hA
      refine S.valg (dj := 53) hA (by kernel_rfl) rfl (R.move rfl) rfl ?_; clear hA a; intro a hA
      refine S.no (dj := 60) hA (by kernel_rfl) rfl rfl rfl ?_; clear hA a; intro a hA
      refine S.no (dj := 60) hA (by kernel_rfl) rfl rfl rfl ?_; clear hA a; intro a hA
      refine S.valg (dj := 53) hA (by kernel_rfl) rfl (R.pickF rfl rfl) rfl ?_; clear hA a; intro a hA
      refine S.val hA (R.pickF rfl rfl) rfl ?_; clear hA a; intro a hA
      refine S.done ?_
      replace hA : St 303 [(2, _), (5, _), (6, _), (9, _), (64, _)] a := hA.sub ((.cons rfl (.cons rfl (.cons rfl (.cons rfl (.cons rfl .nil))))))
      exact hJ _ _ ⟨hA.sub (.cons rfl (.cons rfl (.cons rfl (.cons rfl (.cons (by first | rfl | exact congrArg (fun b => some (Value.bool b)) (by first | exact decide_eq_decide.2 (by omega) | exact or_bool (by omega) | exact and_bool (by omega) | (simp; done) | (simp [hg84, hg85]; done) | (have h80 := hg84; (try simp at h80); have h81 := hg85; (try simp at h81); simp [h80, h81]; done) | exact (decide_eq_false (fun h9 => hg84 h9.1)).symm | exact (decide_eq_false (fun h9 => hg85 h9.1)).symm)) .nil))))), hM⟩
set_option maxRecDepth 100000 in
set_option maxHeartbeats 4000000 in
theorem rparse06_AS (s : ByteArray) (hs : s.size ≤ 9223372036854775807) (X : List Tok) (p0 e0 : Int) (hse : scan s = (X, p0, e0)) (hcs : (X.getD 0 tz).x = ⟨#[65, 83, 83, 73, 71, 78, 77, 69, 78, 84]⟩) (w : World) :
  Calls Tryd.prog 29 #[.string s] w fun e w' => ∃ a3 c3 a4 c4 a5 c5, e = .returned (.tuple #[.agg #[.int .i64 (prs s).1.kind, .int .i64 (prs s).1.n, .int .i64 (prs s).1.cap, .slice a3 (prs s).1.wt.length c3, .slice a4 (prs s).1.vl.length c4, .slice a5 (prs s).1.cost.length c5], .int .i64 (prs s).2.1, .int .i64 (prs s).2.2]) ∧ (IntSl w' (.slice a3 (prs s).1.wt.length c3) (prs s).1.wt ∧ IntSl w' (.slice a4 (prs s).1.vl.length c4) (prs s).1.vl ∧ RowsV w' (.slice a5 (prs s).1.cost.length c5) (prs s).1.cost) ∧ Below w.heap.size w w' := by
 have hbs := Below.refl (B := w.heap.size) w
 have hM := Mem.start w
 refine Calls.of_ends (vs := [.string s]) Tryd.func29 rfl Tryd.ntmps29 rfl ?_
 intro a hA
 replace hA : St 303 [(0, _)] a := hA
 refine Ends.seq (Ends.region ?_)
 refine S.alloc hA hM info25 rfl rfl ?_; clear hA hM a; intro b1 w1 hb2 hM a hA
 replace hM : Mem _ _ [pt b1 cz0 25] _ := hM
 refine S.val hA (R.assign rfl) rfl ?_; clear hA a; intro a hA
 refine S.val hA (R.assign rfl) rfl ?_; clear hA a; intro a hA
 refine S.done ?_
 refine Ends.seq (Ends.region ?_)
 refine S.val hA (R.build (cells := cz0) rfl (by kernel_rfl)) rfl ?_; clear hA a; intro a hA
 refine S.alloc hA hM info25 rfl rfl ?_; clear hA hM a; intro b3 w2 hb4 hM a hA
 replace hM : Mem _ _ [pt b3 cz0 25, pt b1 cz0 25] _ := hM
 refine S.storeA (k := 0) hA hM sz25 rfl rfl rfl rfl rfl rfl ?_; clear hM
 intro w3 hM
 replace hM : Mem _ _ [pt b3 cz0 25, pt b1 cz0 25] _ := hM
 refine S.done ?_
 refine Ends.seq (Ends.region ?_)
 refine S.val hA (R.move rfl) rfl ?_; clear hA a; intro a hA
 have hlen : X.length ≤ 1000000 := by have h9 := scan_len s; rw [hse] at h9; exact h9
 refine S.call hA (R.callF Tryd.func49 rfl rfl rfl) rfl (rscan_eq s (by omega) X p0 e0 hse _) ?_; clear hA a
 rintro e w4 ⟨a5, c6, rfl, hn⟩
 replace hM : Mem _ _ [own 69 4 (.slice a5 X.length c6) X.length (tokv X), pt b3 cz0 25, pt b1 cz0 25] _ := hM.call hn; clear hn
 refine ⟨.tuple #[.slice a5 X.length c6, .int .i64 p0, .int .i64 e0], rfl, fun a hA => ?_⟩
 refine S.val hA (R.move rfl) rfl ?_; clear hA a; intro a hA
 refine S.val hA (R.extract (v := .slice a5 X.length c6) rfl rfl) rfl ?_; clear hA a; intro a hA
 refine S.val hA (R.extract (v := .int .i64 p0) rfl rfl) rfl ?_; clear hA a; intro a hA
 refine S.val hA (R.extract (v := .int .i64 e0) rfl rfl) rfl ?_; clear hA a; intro a hA
 refine S.val hA (R.assign rfl) rfl ?_; clear hA a; intro a hA
 refine S.val hA (R.assign rfl) rfl ?_; clear hA a; intro a hA
 refine S.val hA (R.assign rfl) rfl ?_; clear hA a; intro a hA
 refine S.done ?_
 replace hA : St 303 [(2, _), (5, _), (6, _), (7, _), (8, _)] a := hA.sub ((.cons rfl (.cons rfl (.cons rfl (.cons rfl (.cons rfl .nil))))))
 refine Ends.seq (Ends.seq (Ends.region ?_))
 refine S.val hA (R.move rfl) rfl ?_; clear hA a; intro a hA
 refine S.val hA (R.neq rfl rfl) rfl ?_; clear hA a; intro a hA
 refine S.done ?_
 refine Ends.ite hA rfl (fun hc7 => ?_) (fun hc7 => ?_)
 ·
  refine Ends.seq (Ends.region ?_)
  refine S.val hA (R.loadA sz25 rfl (hM.range (k := 1) rfl) rfl) rfl ?_; clear hA a; intro a hA
  refine S.val hA (R.move rfl) rfl ?_; clear hA a; intro a hA
  refine S.val hA (R.move rfl) rfl ?_; clear hA a; intro a hA
  refine S.storeA (k := 2) hA hM sz25 rfl rfl rfl rfl rfl rfl ?_; clear hM
  intro w5 hM
  replace hM : Mem _ _ [own 69 4 (.slice a5 X.length c6) X.length (tokv X), pt b3 cz0 25, pt b1 cz0 25] _ := hM
  refine S.val hA (R.assign rfl) rfl ?_; clear hA a; intro a hA
  refine S.val hA (R.assign rfl) rfl ?_; clear hA a; intro a hA
  refine S.done ?_
  replace hA : St 303 [(2, _), (3, _), (4, _), (5, _), (6, _)] a := hA.sub ((.cons rfl (.cons rfl (.cons rfl (.cons rfl (.cons rfl .nil))))))
  refine Ends.retC3 (k := 2) Tryd.func29 Tryd.results29 hA hM rfl rfl rfl rfl sz25 rfl ?_
  rw [prs_scan' hse hc7]
  exact ⟨none, 0, none, 0, none, 0, rfl, nilI _, Mem.trans0 hbs hM.nilL⟩
 ·
  have hs0 := Decidable.not_not.1 hc7
  have hX : Toks X := by have h9 := scan_toks (s := s) (by rw [hse]; exact hs0) (by rw [hse]; exact hlen); rw [hse] at h9; exact h9
  have hX0 := hX.pos
  obtain ⟨g8, hg8⟩ := hM.ownAt (k := 0) rfl hX.pos
  subst hg8
  replace hM : Mem _ _ [own 69 4 (.slice (some ⟨g8, 0, none⟩) X.length c6) X.length (tokv X), pt b3 cz0 25, pt b1 cz0 25] _ := hM
  refine Ends.skip (Ends.seq (Ends.seq (Ends.region ?_)))
  refine S.val hA (R.move rfl) rfl ?_; clear hA a; intro a hA
  refine S.val hA (R.indexAddr (q := 0 * 4) sl65 rfl rfl (by first | omega | (rw [nmI_len]; omega) | (simp only [nmI_len]; omega)) (by first | omega | (rw [nmI_len]; omega) | (simp only [nmI_len]; omega))) rfl ?_; clear hA a; intro a hA
  refine S.val hA (R.fieldAddr (q := 0 * 4 + 0) fi69_0 rfl rfl rfl) rfl ?_; clear hA a; intro a hA
  refine S.val hA (R.load sz3 rfl (hM.tokRow (k := 0) rfl (i := 0) (by omega) 0 _ rfl)) rfl ?_; clear hA a; intro a hA
  refine S.val hA (R.eql rfl rfl) rfl ?_; clear hA a; intro a hA
  refine S.done ?_
  replace hA : St 303 [(2, _), (5, _), (6, _), (38, _)] a := hA.sub ((.cons rfl (.cons rfl (.cons rfl (.cons rfl .nil)))))
  refine Ends.ite hA rfl (fun hc9 => ?_) (fun hc9 => ?_)
  ·
   refine Ends.seq ?_
   refine Ends.drawn (Mem w nof [own 69 4 (.slice (some ⟨g8, 0, none⟩) X.length c6) X.length (tokv X), pt b3 cz0 25]) (.cons (0, true) (.cons (1, true) (.cons (2, true) (.cons (3, true) (.cons (4, true) (.cons (5, false) (.cons (6, true) (.cons (7, true) .nil)))))))) 8 mixed (by kernel_rfl) (by kernel_rfl) (by kernel_rfl) (hM.drop 2).drew ?_
   replace hM := hM.drew
   refine D.val hA rfl (by kernel_rfl) (fun _ hM => R.loadA sz25 rfl (hM.range (k := 1) rfl) rfl) rfl ?_; clear hA a; intro a hA
   refine D.valF hA rfl (fun _ => R.move rfl) rfl ?_; clear hA a; intro a hA
   refine D.valF hA rfl (fun _ => R.indexAddr (q := 0 * 4) sl65 rfl rfl (by first | omega | (rw [nmI_len]; omega) | (simp only [nmI_len]; omega)) (by first | omega | (rw [nmI_len]; omega) | (simp only [nmI_len]; omega))) rfl ?_; clear hA a; intro a hA
   refine D.valF hA rfl (fun _ => R.fieldAddr (q := 0 * 4 + 3) fi69_3 rfl rfl rfl) rfl ?_; clear hA a; intro a hA
   refine D.val hA rfl (by kernel_rfl) (fun _ hM => R.load sz3 rfl (hM.tokRow (k := 0) rfl (i := 0) (by omega) 3 _ rfl)) rfl ?_; clear hA a; intro a hA
   refine D.storeA (k := 2) hA hM rfl sz25 rfl rfl rfl rfl rfl rfl ?_; clear hM
   intro w6 hM; refine ⟨fun _ _ => (hM.drop 2), ?_⟩
   replace hM : Mem _ _ [own 69 4 (.slice (some ⟨g8, 0, none⟩) X.length c6) X.length (tokv X), pt b3 cz0 25, pt b1 cz0 25] _ := hM
   refine D.valF hA rfl (fun _ => R.assign rfl) rfl ?_; clear hA a; intro a hA
   refine D.valF hA rfl (fun _ => R.assign rfl) rfl ?_; clear hA a; intro a hA
   refine D.done ?_
   replace hA : St 303 [(2, _), (3, _), (4, _), (5, _), (6, _)] a := hA.sub ((.cons rfl (.cons rfl (.cons rfl (.cons rfl (.cons rfl .nil))))))
   refine Ends.retC3 (k := 2) Tryd.func29 Tryd.results29 hA hM rfl rfl rfl rfl sz25 rfl ?_
   have hpb : pbR X = (6, 0) := pb_w (wordR_end hc9) (by decide)
   rw [prs_bad' hse hs0 hpb (by decide)]
   exact ⟨none, 0, none, 0, none, 0, rfl, nilI _, Mem.trans0 hbs hM.nilL⟩
  ·
   have k03 : ¬ (X.getD 0 tz).k = 3 := hc9
   have hj1 := hX.next 0 hX0 k03
   refine Ends.skip (Ends.seq (Ends.region ?_))
   refine S.val hA (R.move rfl) rfl ?_; clear hA a; intro a hA
   refine S.val hA (R.indexAddr (q := 0 * 4) sl65 rfl rfl (by first | omega | (rw [nmI_len]; omega) | (simp only [nmI_len]; omega)) (by first | omega | (rw [nmI_len]; omega) | (simp only [nmI_len]; omega))) rfl ?_; clear hA a; intro a hA
   refine S.val hA (R.fieldAddr (q := 0 * 4 + 1) fi69_1 rfl rfl rfl) rfl ?_; clear hA a; intro a hA
   refine S.val hA (R.load sz9 rfl (hM.tokRow (k := 0) rfl (i := 0) (by omega) 1 _ rfl)) rfl ?_; clear hA a; intro a hA
   refine S.val hA (R.assign rfl) rfl ?_; clear hA a; intro a hA
   refine S.done ?_
   replace hA : St 303 [(2, _), (5, _), (6, _), (9, _)] a := hA.sub ((.cons rfl (.cons rfl (.cons rfl (.cons rfl .nil)))))
   refine Ends.seq (Ends.seq ?_)
   refine Ends.cut (fun (a : Act) (wv : World) => St 303 [(2, .pointer (some ⟨b1, 0, none⟩)), (5, .pointer (some ⟨b3, 0, none⟩)), (6, .slice (some ⟨g8, 0, none⟩) X.length c6), (9, .string ((X.getD 0 tz).x)), (64, .bool (decide ((((X.getD 0 tz).k) = 2 ∨ (((X.getD 0 tz).x ≠ ⟨#[75, 78, 65, 80, 83, 65, 67, 75]⟩ ∧ (X.getD 0 tz).x ≠ ⟨#[65, 83, 83, 73, 71, 78, 77, 69, 78, 84]⟩) ∧ (X.getD 0 tz).x ≠ ⟨#[84, 83, 80]⟩)))))] a ∧ Mem w nof [own 69 4 (.slice (some ⟨g8, 0, none⟩) X.length c6) X.length (tokv X), pt b3 cz0 25, pt b1 cz0 25] wv) ?_ (fun k2 hJ => ?_)
   ·
    clear hA hM a; rintro a w7 ⟨hA, hM⟩
    refine Ends.ite hA rfl (fun hc10 => ?_) (fun hc10 => ?_)
    ·
     refine Ends.seq ?_
     refine Ends.drawn (Mem w nof [own 69 4 (.slice (some ⟨g8, 0, none⟩) X.length c6) X.length (tokv X), pt b3 cz0 25]) (.cons (0, true) (.cons (1, true) (.cons (2, true) (.cons (3, true) (.cons (4, true) (.cons (5, false) (.cons (6, true) (.cons (7, true) .nil)))))))) 8 mixed (by kernel_rfl) (by kernel_rfl) (by kernel_rfl) (hM.drop 2).drew ?_
     replace hM := hM.drew
     refine D.val hA rfl (by kernel_rfl) (fun _ hM => R.loadA sz25 rfl (hM.range (k := 1) rfl) rfl) rfl ?_; clear hA a; intro a hA
     refine D.valF hA rfl (fun _ => R.move rfl) rfl ?_; clear hA a; intro a hA
     refine D.valF hA rfl (fun _ => R.indexAddr (q := 0 * 4) sl65 rfl rfl (by first | omega | (rw [nmI_len]; omega) | (simp only [nmI_len]; omega)) (by first | omega | (rw [nmI_len]; omega) | (simp only [nmI_len]; omega))) rfl ?_; clear hA a; intro a hA
     refine D.valF hA rfl (fun _ => R.fieldAddr (q := 0 * 4 + 3) fi69_3 rfl rfl rfl) rfl ?_; clear hA a; intro a hA
     refine D.val hA rfl (by kernel_rfl) (fun _ hM => R.load sz3 rfl (hM.tokRow (k := 0) rfl (i := 0) (by omega) 3 _ rfl)) rfl ?_; clear hA a; intro a hA
     refine D.storeA (k := 2) hA hM rfl sz25 rfl rfl rfl rfl rfl rfl ?_; clear hM
     intro w8 hM; refine ⟨fun _ _ => (hM.drop 2), ?_⟩
     replace hM : Mem _ _ [own 69 4 (.slice (some ⟨g8, 0, none⟩) X.length c6) X.length (tokv X), pt b3 cz0 25, pt b1 cz0 25] _ := hM
     refine D.valF hA rfl (fun _ => R.assign rfl) rfl ?_; clear hA a; intro a hA
     refine D.valF hA rfl (fun _ => R.assign rfl) rfl ?_; clear hA a; intro a hA
     refine D.done ?_
     replace hA : St 303 [(2, _), (3, _), (4, _), (5, _), (6, _), (9, _)] a := hA.sub ((.cons rfl (.cons rfl (.cons rfl (.cons rfl (.cons rfl (.cons rfl .nil)))))))
     refine Ends.retC3 (k := 2) Tryd.func29 Tryd.results29 hA hM rfl rfl rfl rfl sz25 rfl ?_
     have hpb : pbR X = (3, 0) := pb_w (w3_no k03 (by have h9 := hc10; simp only [wKN, wAS, wTS]; exact h9.imp_right fun g => ⟨g.1.1, g.1.2, g.2⟩)) (by decide)
     rw [prs_bad' hse hs0 hpb (by decide)]
     exact ⟨none, 0, none, 0, none, 0, rfl, nilI _, Mem.trans0 hbs hM.nilL⟩
    ·
     have hnw := hc10
     refine Ends.skip (Ends.seq (Ends.seq ?_))
     have hk01 := hX.one hX0 k03 hcs (by decide)
     have hw0 := w3_as hk01 hcs
     rw [hcs] at hA
     refine Ends.region ?_
     refine S.val hA (R.move rfl) rfl ?_; clear hA a; intro a hA
     refine S.val hA (R.indexAddr (q := 1 * 4) sl65 rfl rfl (by first | omega | (rw [nmI_len]; omega) | (simp only [nmI_len]; omega)) (by first | omega | (rw [nmI_len]; omega) | (simp only [nmI_len]; omega))) rfl ?_; clear hA a; intro a hA
     refine S.val hA (R.fieldAddr (q := 1 * 4 + 0) fi69_0 rfl rfl rfl) rfl ?_; clear hA a; intro a hA
     refine S.val hA (R.load sz3 rfl (hM.tokRow (k := 0) rfl (i := 1) (by omega) 0 _ rfl)) rfl ?_; clear hA a; intro a hA
     refine S.val hA (R.eql rfl rfl) rfl ?_; clear hA a; intro a hA
     refine S.done ?_
     replace hA : St 303 [(2, _), (5, _), (6, _), (9, _), (74, _)] a := hA.sub ((.cons rfl (.cons rfl (.cons rfl (.cons rfl (.cons rfl .nil))))))
     refine Ends.ite hA rfl (fun hc11 => ?_) (fun hc11 => ?_)
     ·
      refine Ends.seq ?_
      refine Ends.drawn (Mem w nof [own 69 4 (.slice (some ⟨g8, 0, none⟩) X.length c6) X.length (tokv X), pt b3 cz0 25]) (.cons (0, true) (.cons (1, true) (.cons (2, true) (.cons (3, true) (.cons (4, true) (.cons (5, false) (.cons (6, true) (.cons (7, true) .nil)))))))) 8 mixed (by kernel_rfl) (by kernel_rfl) (by kernel_rfl) (hM.drop 2).drew ?_
      replace hM := hM.drew
      refine D.val hA rfl (by kernel_rfl) (fun _ hM => R.loadA sz25 rfl (hM.range (k := 1) rfl) rfl) rfl ?_; clear hA a; intro a hA
      refine D.valF hA rfl (fun _ => R.move rfl) rfl ?_; clear hA a; intro a hA
      refine D.valF hA rfl (fun _ => R.indexAddr (q := 1 * 4) sl65 rfl rfl (by first | omega | (rw [nmI_len]; omega) | (simp only [nmI_len]; omega)) (by first | omega | (rw [nmI_len]; omega) | (simp only [nmI_len]; omega))) rfl ?_; clear hA a; intro a hA
      refine D.valF hA rfl (fun _ => R.fieldAddr (q := 1 * 4 + 3) fi69_3 rfl rfl rfl) rfl ?_; clear hA a; intro a hA
      refine D.val hA rfl (by kernel_rfl) (fun _ hM => R.load sz3 rfl (hM.tokRow (k := 0) rfl (i := 1) (by omega) 3 _ rfl)) rfl ?_; clear hA a; intro a hA
      refine D.storeA (k := 2) hA hM rfl sz25 rfl rfl rfl rfl rfl rfl ?_; clear hM
      intro w9 hM; refine ⟨fun _ _ => (hM.drop 2), ?_⟩
      replace hM : Mem _ _ [own 69 4 (.slice (some ⟨g8, 0, none⟩) X.length c6) X.length (tokv X), pt b3 cz0 25, pt b1 cz0 25] _ := hM
      refine D.valF hA rfl (fun _ => R.assign rfl) rfl ?_; clear hA a; intro a hA
      refine D.valF hA rfl (fun _ => R.assign rfl) rfl ?_; clear hA a; intro a hA
      refine D.done ?_
      replace hA : St 303 [(2, _), (3, _), (4, _), (5, _), (6, _), (9, _)] a := hA.sub ((.cons rfl (.cons rfl (.cons rfl (.cons rfl (.cons rfl (.cons rfl .nil)))))))
      refine Ends.retC3 (k := 2) Tryd.func29 Tryd.results29 hA hM rfl rfl rfl rfl sz25 rfl ?_
      have hpb : pbR X = (6, 1) := pb_b hw0 rfl (bodR_cnt2 (c := 6) (cnt_6 hc11) (by decide)) (by decide)
      rw [prs_bad' hse hs0 hpb (by decide)]
      exact ⟨none, 0, none, 0, none, 0, rfl, nilI _, Mem.trans0 hbs hM.nilL⟩
     ·
      have k13 : ¬ (X.getD 1 tz).k = 3 := hc11
      have hj2 := hX.next 1 hj1 k13
      refine Ends.skip (Ends.seq (Ends.seq (Ends.region ?_)))
      refine S.val hA (R.move rfl) rfl ?_; clear hA a; intro a hA
      refine S.val hA (R.indexAddr (q := 1 * 4) sl65 rfl rfl (by first | omega | (rw [nmI_len]; omega) | (simp only [nmI_len]; omega)) (by first | omega | (rw [nmI_len]; omega) | (simp only [nmI_len]; omega))) rfl ?_; clear hA a; intro a hA
      refine S.val hA (R.fieldAddr (q := 1 * 4 + 0) fi69_0 rfl rfl rfl) rfl ?_; clear hA a; intro a hA
      refine S.val hA (R.load sz3 rfl (hM.tokRow (k := 0) rfl (i := 1) (by omega) 0 _ rfl)) rfl ?_; clear hA a; intro a hA
      refine S.val hA (R.eql rfl rfl) rfl ?_; clear hA a; intro a hA
      refine S.done ?_
      replace hA : St 303 [(2, _), (5, _), (6, _), (9, _), (84, _)] a := hA.sub ((.cons rfl (.cons rfl (.cons rfl (.cons rfl (.cons rfl .nil))))))
      refine Ends.ite hA rfl (fun hc12 => ?_) (fun hc12 => ?_)
      ·
       refine Ends.seq ?_
       refine Ends.drawn (Mem w nof [own 69 4 (.slice (some ⟨g8, 0, none⟩) X.length c6) X.length (tokv X), pt b3 cz0 25]) (.cons (0, true) (.cons (1, true) (.cons (2, true) (.cons (3, true) (.cons (4, true) (.cons (5, false) (.cons (6, true) (.cons (7, true) .nil)))))))) 8 mixed (by kernel_rfl) (by kernel_rfl) (by kernel_rfl) (hM.drop 2).drew ?_
       replace hM := hM.drew
       refine D.val hA rfl (by kernel_rfl) (fun _ hM => R.loadA sz25 rfl (hM.range (k := 1) rfl) rfl) rfl ?_; clear hA a; intro a hA
       refine D.valF hA rfl (fun _ => R.move rfl) rfl ?_; clear hA a; intro a hA
       refine D.valF hA rfl (fun _ => R.indexAddr (q := 1 * 4) sl65 rfl rfl (by first | omega | (rw [nmI_len]; omega) | (simp only [nmI_len]; omega)) (by first | omega | (rw [nmI_len]; omega) | (simp only [nmI_len]; omega))) rfl ?_; clear hA a; intro a hA
       refine D.valF hA rfl (fun _ => R.fieldAddr (q := 1 * 4 + 3) fi69_3 rfl rfl rfl) rfl ?_; clear hA a; intro a hA
       refine D.val hA rfl (by kernel_rfl) (fun _ hM => R.load sz3 rfl (hM.tokRow (k := 0) rfl (i := 1) (by omega) 3 _ rfl)) rfl ?_; clear hA a; intro a hA
       refine D.storeA (k := 2) hA hM rfl sz25 rfl rfl rfl rfl rfl rfl ?_; clear hM
       intro w10 hM; refine ⟨fun _ _ => (hM.drop 2), ?_⟩
       replace hM : Mem _ _ [own 69 4 (.slice (some ⟨g8, 0, none⟩) X.length c6) X.length (tokv X), pt b3 cz0 25, pt b1 cz0 25] _ := hM
       refine D.valF hA rfl (fun _ => R.assign rfl) rfl ?_; clear hA a; intro a hA
       refine D.valF hA rfl (fun _ => R.assign rfl) rfl ?_; clear hA a; intro a hA
       refine D.done ?_
       replace hA : St 303 [(2, _), (3, _), (4, _), (5, _), (6, _), (9, _)] a := hA.sub ((.cons rfl (.cons rfl (.cons rfl (.cons rfl (.cons rfl (.cons rfl .nil)))))))
       refine Ends.retC3 (k := 2) Tryd.func29 Tryd.results29 hA hM rfl rfl rfl rfl sz25 rfl ?_
       have hpb : pbR X = (4, 1) := pb_b hw0 rfl (bodR_cnt2 (c := 4) (cnt_4 k13 hc12) (by decide)) (by decide)
       rw [prs_bad' hse hs0 hpb (by decide)]
       exact ⟨none, 0, none, 0, none, 0, rfl, nilI _, Mem.trans0 hbs hM.nilL⟩
      ·
       have k11 : ¬ (X.getD 1 tz).k = 1 := hc12
       refine Ends.skip (Ends.seq (Ends.region ?_))
       refine S.val hA (R.move rfl) rfl ?_; clear hA a; intro a hA
       refine S.val hA (R.indexAddr (q := 1 * 4) sl65 rfl rfl (by first | omega | (rw [nmI_len]; omega) | (simp only [nmI_len]; omega)) (by first | omega | (rw [nmI_len]; omega) | (simp only [nmI_len]; omega))) rfl ?_; clear hA a; intro a hA
       refine S.val hA (R.fieldAddr (q := 1 * 4 + 2) fi69_2 rfl rfl rfl) rfl ?_; clear hA a; intro a hA
       refine S.val hA (R.load sz3 rfl (hM.tokRow (k := 0) rfl (i := 1) (by omega) 2 _ rfl)) rfl ?_; clear hA a; intro a hA
       refine S.val hA (R.assign rfl) rfl ?_; clear hA a; intro a hA
       refine S.val hA (R.assign rfl) rfl ?_; clear hA a; intro a hA
       refine S.done ?_
       replace hA : St 303 [(2, _), (5, _), (6, _), (9, _), (10, _), (11, _)] a := hA.sub ((.cons rfl (.cons rfl (.cons rfl (.cons rfl (.cons rfl (.cons rfl .nil)))))))
       refine Ends.seq (Ends.seq (Ends.region ?_))
       refine S.val hA (R.move rfl) rfl ?_; clear hA a; intro a hA
       refine S.val hA (R.ff (R.eqlStr rfl rfl) (by first | decide | simp | omega)) rfl ?_; clear hA a; intro a hA
       refine S.done ?_
       refine Ends.condF hA rfl ?_
       refine Ends.skip (Ends.seq (Ends.seq (Ends.region ?_)))
       refine S.val hA (R.move rfl) rfl ?_; clear hA a; intro a hA
       refine S.val hA (R.eql rfl rfl) rfl ?_; clear hA a; intro a hA
       refine S.done ?_
       refine Ends.ite hA rfl (fun hc13 => ?_) (fun hc13 => ?_)
       ·
        refine Ends.seq ?_
        refine Ends.drawn (Mem w nof [own 69 4 (.slice (some ⟨g8, 0, none⟩) X.length c6) X.length (tokv X), pt b3 cz0 25]) (.cons (0, true) (.cons (1, true) (.cons (2, true) (.cons (3, true) (.cons (4, true) (.cons (5, false) (.cons (6, true) (.cons (7, true) .nil)))))))) 8 mixed (by kernel_rfl) (by kernel_rfl) (by kernel_rfl) (hM.drop 2).drew ?_
        replace hM := hM.drew
        refine D.val hA rfl (by kernel_rfl) (fun _ hM => R.loadA sz25 rfl (hM.range (k := 1) rfl) rfl) rfl ?_; clear hA a; intro a hA
        refine D.valF hA rfl (fun _ => R.move rfl) rfl ?_; clear hA a; intro a hA
        refine D.valF hA rfl (fun _ => R.indexAddr (q := 1 * 4) sl65 rfl rfl (by first | omega | (rw [nmI_len]; omega) | (simp only [nmI_len]; omega)) (by first | omega | (rw [nmI_len]; omega) | (simp only [nmI_len]; omega))) rfl ?_; clear hA a; intro a hA
        refine D.valF hA rfl (fun _ => R.fieldAddr (q := 1 * 4 + 3) fi69_3 rfl rfl rfl) rfl ?_; clear hA a; intro a hA
        refine D.val hA rfl (by kernel_rfl) (fun _ hM => R.load sz3 rfl (hM.tokRow (k := 0) rfl (i := 1) (by omega) 3 _ rfl)) rfl ?_; clear hA a; intro a hA
        refine D.storeA (k := 2) hA hM rfl sz25 rfl rfl rfl rfl rfl rfl ?_; clear hM
        intro w11 hM; refine ⟨fun _ _ => (hM.drop 2), ?_⟩
        replace hM : Mem _ _ [own 69 4 (.slice (some ⟨g8, 0, none⟩) X.length c6) X.length (tokv X), pt b3 cz0 25, pt b1 cz0 25] _ := hM
        refine D.valF hA rfl (fun _ => R.assign rfl) rfl ?_; clear hA a; intro a hA
        refine D.valF hA rfl (fun _ => R.assign rfl) rfl ?_; clear hA a; intro a hA
        refine D.done ?_
        replace hA : St 303 [(2, _), (3, _), (4, _), (5, _), (6, _), (9, _), (10, _), (11, _)] a := hA.sub ((.cons rfl (.cons rfl (.cons rfl (.cons rfl (.cons rfl (.cons rfl (.cons rfl (.cons rfl .nil)))))))))
        refine Ends.retC3 (k := 2) Tryd.func29 Tryd.results29 hA hM rfl rfl rfl rfl sz25 rfl ?_
        have hpb : pbR X = (1, 1) := pb_b hw0 rfl (bodR_cnt2 (c := 1) (cnt_1 k13 k11 hc13 (by decide)) (by decide)) (by decide)
        rw [prs_bad' hse hs0 hpb (by decide)]
        exact ⟨none, 0, none, 0, none, 0, rfl, nilI _, Mem.trans0 hbs hM.nilL⟩
       ·
        have n10 : ¬ (X.getD 1 tz).n = 0 := hc13
        refine Ends.skip (Ends.seq (Ends.seq (Ends.region ?_)))
        refine S.val hA (R.move rfl) rfl ?_; clear hA a; intro a hA
        refine S.val hA (R.move rfl) rfl ?_; clear hA a; intro a hA
        refine S.val hA (R.gtr rfl rfl) rfl ?_; clear hA a; intro a hA
        refine S.done ?_
        replace hA : St 303 [(2, _), (5, _), (6, _), (9, _), (10, _), (105, _)] a := hA.sub ((.cons rfl (.cons rfl (.cons rfl (.cons rfl (.cons rfl (.cons rfl .nil)))))))
        refine Ends.ite hA rfl (fun hc14 => ?_) (fun hc14 => ?_)
        ·
         refine Ends.seq ?_
         refine Ends.drawn (Mem w nof [own 69 4 (.slice (some ⟨g8, 0, none⟩) X.length c6) X.length (tokv X), pt b3 cz0 25]) (.cons (0, true) (.cons (1, true) (.cons (2, true) (.cons (3, true) (.cons (4, true) (.cons (5, false) (.cons (6, true) (.cons (7, true) .nil)))))))) 8 mixed (by kernel_rfl) (by kernel_rfl) (by kernel_rfl) (hM.drop 2).drew ?_
         replace hM := hM.drew
         refine D.val hA rfl (by kernel_rfl) (fun _ hM => R.loadA sz25 rfl (hM.range (k := 1) rfl) rfl) rfl ?_; clear hA a; intro a hA
         refine D.valF hA rfl (fun _ => R.move rfl) rfl ?_; clear hA a; intro a hA
         refine D.valF hA rfl (fun _ => R.indexAddr (q := 1 * 4) sl65 rfl rfl (by first | omega | (rw [nmI_len]; omega) | (simp only [nmI_len]; omega)) (by first | omega | (rw [nmI_len]; omega) | (simp only [nmI_len]; omega))) rfl ?_; clear hA a; intro a hA
         refine D.valF hA rfl (fun _ => R.fieldAddr (q := 1 * 4 + 3) fi69_3 rfl rfl rfl) rfl ?_; clear hA a; intro a hA
         refine D.val hA rfl (by kernel_rfl) (fun _ hM => R.load sz3 rfl (hM.tokRow (k := 0) rfl (i := 1) (by omega) 3 _ rfl)) rfl ?_; clear hA a; intro a hA
         refine D.storeA (k := 2) hA hM rfl sz25 rfl rfl rfl rfl rfl rfl ?_; clear hM
         intro w12 hM; refine ⟨fun _ _ => (hM.drop 2), ?_⟩
         replace hM : Mem _ _ [own 69 4 (.slice (some ⟨g8, 0, none⟩) X.length c6) X.length (tokv X), pt b3 cz0 25, pt b1 cz0 25] _ := hM
         refine D.valF hA rfl (fun _ => R.assign rfl) rfl ?_; clear hA a; intro a hA
         refine D.valF hA rfl (fun _ => R.assign rfl) rfl ?_; clear hA a; intro a hA
         refine D.done ?_
         replace hA : St 303 [(2, _), (3, _), (4, _), (5, _), (6, _), (9, _), (10, _)] a := hA.sub ((.cons rfl (.cons rfl (.cons rfl (.cons rfl (.cons rfl (.cons rfl (.cons rfl .nil))))))))
         refine Ends.retC3 (k := 2) Tryd.func29 Tryd.results29 hA hM rfl rfl rfl rfl sz25 rfl ?_
         have hpb : pbR X = (5, 1) := pb_b hw0 rfl (bodR_cnt2 (c := 5) (cnt_5 k13 k11 hc14) (by decide)) (by decide)
         rw [prs_bad' hse hs0 hpb (by decide)]
         exact ⟨none, 0, none, 0, none, 0, rfl, nilI _, Mem.trans0 hbs hM.nilL⟩
        ·
         have n1m : ¬ 24 < (X.getD 1 tz).n := hc14
         have hn1_ := hX.num 1
         obtain ⟨n, hn⟩ : ∃ n : Nat, (X.getD 1 tz).n = (n : Int) := ⟨(X.getD 1 tz).n.toNat, by omega⟩
         obtain ⟨hc0, hc1⟩ := cnt_0 k13 k11 n1m n10
         have hcn : ctN X 1 24 = n := by unfold ctN; rw [hc1, hn]; rfl
         have hn1 : 1 ≤ n := by omega
         have hn64 : n ≤ 24 := by omega
         rw [hn] at hA
         refine Ends.skip (Ends.seq (Ends.region ?_))
         refine S.val hA (R.move rfl) rfl ?_; clear hA a; intro a hA
         refine S.val hA (R.build (cells := #[.int .i64 1, .int .i64 ((n : Int)), .int .i64 0, .slice none 0 0, .slice none 0 0, .slice none 0 0]) rfl (by kernel_rfl)) rfl ?_; clear hA a; intro a hA
         refine S.alloc hA hM info25 rfl rfl ?_; clear hA hM a; intro b15 w13 hb16 hM a hA
         replace hM : Mem _ _ [pt b15 cz0 25, own 69 4 (.slice (some ⟨g8, 0, none⟩) X.length c6) X.length (tokv X), pt b3 cz0 25, pt b1 cz0 25] _ := hM
         refine S.storeA (k := 0) hA hM sz25 rfl rfl rfl rfl rfl rfl ?_; clear hM
         intro w14 hM
         replace hM : Mem _ _ [pt b15 #[.int .i64 1, .int .i64 ((n : Int)), .int .i64 0, .slice none 0 0, .slice none 0 0, .slice none 0 0] 25, own 69 4 (.slice (some ⟨g8, 0, none⟩) X.length c6) X.length (tokv X), pt b3 cz0 25, pt b1 cz0 25] _ := hM
         refine S.done ?_
         refine Ends.seq (Ends.region ?_)
         refine S.val hA (R.assign rfl) rfl ?_; clear hA a; intro a hA
         refine S.done ?_
         refine Ends.seq (Ends.seq (Ends.region ?_))
         refine S.val hA (R.move rfl) rfl ?_; clear hA a; intro a hA
         refine S.val hA (R.tt (R.eqlStr rfl rfl) (by first | decide | simp | omega)) rfl ?_; clear hA a; intro a hA
         refine S.done ?_
         replace hA : St 303 [(2, _), (5, _), (6, _), (9, _), (10, _), (12, _), (13, _), (114, _)] a := hA.sub ((.cons rfl (.cons rfl (.cons rfl (.cons rfl (.cons rfl (.cons rfl (.cons rfl (.cons rfl .nil)))))))))
         refine Ends.condT hA rfl ?_
         refine Ends.region ?_
         refine S.val hA (R.fieldAddr (q := 0) fi25_0 rfl rfl rfl) rfl ?_; clear hA a; intro a hA
         refine S.store (k := 0) hA hM sz3 rfl rfl rfl rfl rfl ?_; clear hM
         intro w15 hM
         replace hM : Mem _ _ [pt b15 #[.int .i64 2, .int .i64 ((n : Int)), .int .i64 0, .slice none 0 0, .slice none 0 0, .slice none 0 0] 25, own 69 4 (.slice (some ⟨g8, 0, none⟩) X.length c6) X.length (tokv X), pt b3 cz0 25, pt b1 cz0 25] _ := hM
         refine S.done ?_
         refine Ends.seq (Ends.seq (Ends.region ?_))
         refine S.val hA (R.move rfl) rfl ?_; clear hA a; intro a hA
         refine S.val hA (R.ff (R.eqlStr rfl rfl) (by first | decide | simp | omega)) rfl ?_; clear hA a; intro a hA
         refine S.done ?_
         refine Ends.condF hA rfl ?_
         refine Ends.skip (Ends.seq (Ends.region ?_))
         refine S.val hA (R.assign rfl) rfl ?_; clear hA a; intro a hA
         refine S.done ?_
         replace hA : St 303 [(2, _), (5, _), (6, _), (9, _), (10, _), (12, _), (13, _), (14, _)] a := hA.sub ((.cons rfl (.cons rfl (.cons rfl (.cons rfl (.cons rfl (.cons rfl (.cons rfl (.cons rfl .nil)))))))))
         refine Ends.seq (Ends.seq (Ends.region ?_))
         refine S.val hA (R.move rfl) rfl ?_; clear hA a; intro a hA
         refine S.val hA (R.move rfl) rfl ?_; clear hA a; intro a hA
         obtain ⟨M, hMv⟩ : ∃ M, n * n = M := ⟨_, rfl⟩
         refine S.call hA (R.callF Tryd.func50 rfl rfl rfl) rfl (hMv ▸ want_as n (by omega) _) ?_; clear hA a
         rintro e w16 ⟨rfl, rfl⟩
         refine ⟨.int .i64 ((M : Int)), rfl, fun a hA => ?_⟩
         refine S.val hA (R.assign rfl) rfl ?_; clear hA a; intro a hA
         refine S.done ?_
         refine Ends.block ?_
         have hMb : M ≤ 5000 := by have h9 := nn_le hn64; omega
         replace hM := hM.ownNil 3 1
         replace hM : Mem _ _ [own 3 1 (.slice none (((nmI X 2 0)).length) 0) (((nmI X 2 0)).length) (((nmI X 2 0)).map (Value.int .i64)), pt b15 #[.int .i64 2, .int .i64 ((n : Int)), .int .i64 0, .slice none 0 0, .slice none 0 0, .slice none 0 0] 25, own 69 4 (.slice (some ⟨g8, 0, none⟩) X.length c6) X.length (tokv X), pt b3 cz0 25, pt b1 cz0 25] _ := hM
         refine Ends.loop (σ := Nat × Option Addr × Nat) (fun (q, na, nc) (a : Act) (wv : World) => St 303 [(2, .pointer (some ⟨b1, 0, none⟩)), (5, .pointer (some ⟨b3, 0, none⟩)), (6, .slice (some ⟨g8, 0, none⟩) X.length c6), (9, .string (⟨#[65, 83, 83, 73, 71, 78, 77, 69, 78, 84]⟩)), (10, .int .i64 ((n : Int))), (12, .pointer (some ⟨b15, 0, none⟩)), (13, .int .i64 (((2 + q : Nat) : Int))), (14, .slice na ((nmI X 2 q).length) nc), (15, .int .i64 (((M - q : Nat) : Int)))] a ∧ Mem w nof [own 3 1 (.slice na (((nmI X 2 q)).length) nc) (((nmI X 2 q)).length) (((nmI X 2 q)).map (Value.int .i64)), pt b15 #[.int .i64 2, .int .i64 ((n : Int)), .int .i64 0, .slice none 0 0, .slice none 0 0, .slice none 0 0] 25, own 69 4 (.slice (some ⟨g8, 0, none⟩) X.length c6) X.length (tokv X), pt b3 cz0 25, pt b1 cz0 25] wv ∧ (q ≤ M) ∧ (2 + q < X.length) ∧ (∀ r, r < q → nuE (ff r) (X.getD (2 + r) tz) = 0)) (fun (q, na, nc) => M - q) ((0, none, 0)) ⟨hA.sub ((.cons rfl (.cons rfl (.cons rfl (.cons rfl (.cons rfl (.cons rfl (.cons rfl (.cons rfl (.cons rfl .nil)))))))))), hM, (Nat.zero_le _), hj2, (fun r hr => absurd hr (Nat.not_lt_zero r))⟩ ?_
         clear hA hM a
         rintro ⟨q, na, nc⟩ a w17 ⟨hA, hM, hq, hjq, hall⟩ hNext
         refine Ends.seq (Ends.seq (Ends.region ?_))
         refine S.val hA (R.move rfl) rfl ?_; clear hA a; intro a hA
         refine S.val hA (R.gtr rfl rfl) rfl ?_; clear hA a; intro a hA
         refine S.done ?_
         refine Ends.ite hA rfl (fun hc17 => ?_) (fun hc17 => ?_)
         ·
          have hqM : q < M := by omega
          refine Ends.skip (Ends.seq (Ends.block (Ends.seq (Ends.region ?_))))
          refine S.val hA (R.move rfl) rfl ?_; clear hA a; intro a hA
          refine S.val hA (R.move rfl) rfl ?_; clear hA a; intro a hA
          refine S.val hA (R.indexAddr (q := (2 + q) * 4) sl65 rfl rfl (by first | omega | (rw [nmI_len]; omega) | (simp only [nmI_len]; omega)) (by first | omega | (rw [nmI_len]; omega) | (simp only [nmI_len]; omega))) rfl ?_; clear hA a; intro a hA
          refine S.val hA (R.loadA sz69 rfl (hM.tokRow (k := 2) rfl (i := (2 + q)) (by omega)) rfl) rfl ?_; clear hA a; intro a hA
          refine S.alloc hA hM info69 rfl rfl ?_; clear hA hM a; intro b18 w18 hb19 hM a hA
          replace hM : Mem _ _ [pt b18 #[.int .i64 0, .string (⟨#[]⟩), .int .i64 0, .int .i64 0] 69, own 3 1 (.slice na (((nmI X 2 q)).length) nc) (((nmI X 2 q)).length) (((nmI X 2 q)).map (Value.int .i64)), pt b15 #[.int .i64 2, .int .i64 ((n : Int)), .int .i64 0, .slice none 0 0, .slice none 0 0, .slice none 0 0] 25, own 69 4 (.slice (some ⟨g8, 0, none⟩) X.length c6) X.length (tokv X), pt b3 cz0 25, pt b1 cz0 25] _ := hM
          refine S.storeA (k := 0) hA hM sz69 rfl rfl rfl rfl rfl rfl ?_; clear hM
          intro w19 hM
          replace hM : Mem _ _ [pt b18 #[.int .i64 ((X.getD (2 + q) tz).k), .string ((X.getD (2 + q) tz).x), .int .i64 ((X.getD (2 + q) tz).n), .int .i64 ((X.getD (2 + q) tz).a)] 69, own 3 1 (.slice na (((nmI X 2 q)).length) nc) (((nmI X 2 q)).length) (((nmI X 2 q)).map (Value.int .i64)), pt b15 #[.int .i64 2, .int .i64 ((n : Int)), .int .i64 0, .slice none 0 0, .slice none 0 0, .slice none 0 0] 25, own 69 4 (.slice (some ⟨g8, 0, none⟩) X.length c6) X.length (tokv X), pt b3 cz0 25, pt b1 cz0 25] _ := hM
          refine S.done ?_
          replace hA : St 303 [(2, _), (5, _), (6, _), (9, _), (10, _), (12, _), (13, _), (14, _), (15, _), (16, _)] a := hA.sub ((.cons rfl (.cons rfl (.cons rfl (.cons rfl (.cons rfl (.cons rfl (.cons rfl (.cons rfl (.cons rfl (.cons rfl .nil)))))))))))
          refine Ends.seq (Ends.seq (Ends.region ?_))
          refine S.val hA (R.fieldAddr (q := 0) fi69_0 rfl rfl rfl) rfl ?_; clear hA a; intro a hA
          refine S.val hA (R.load sz3 rfl (hM.cell (k := 0) rfl rfl)) rfl ?_; clear hA a; intro a hA
          refine S.val hA (R.eql rfl rfl) rfl ?_; clear hA a; intro a hA
          refine S.done ?_
          refine Ends.ite hA rfl (fun hc20 => ?_) (fun hc20 => ?_)
          ·
           refine Ends.seq ?_
           refine Ends.drawn (Mem w nof [pt b18 #[.int .i64 ((X.getD (2 + q) tz).k), .string ((X.getD (2 + q) tz).x), .int .i64 ((X.getD (2 + q) tz).n), .int .i64 ((X.getD (2 + q) tz).a)] 69, pt b15 #[.int .i64 2, .int .i64 ((n : Int)), .int .i64 0, .slice none 0 0, .slice none 0 0, .slice none 0 0] 25, own 69 4 (.slice (some ⟨g8, 0, none⟩) X.length c6) X.length (tokv X), pt b3 cz0 25]) (.cons (0, true) (.cons (1, true) (.cons (2, true) (.cons (3, false) (.cons (4, true) (.cons (5, true) .nil)))))) 6 mixed (by kernel_rfl) (by kernel_rfl) (by kernel_rfl) ((hM.drop 5).drop 1).drew ?_
           replace hM := hM.drew
           refine D.val hA rfl (by kernel_rfl) (fun _ hM => R.loadA sz25 rfl (hM.range (k := 3) rfl) rfl) rfl ?_; clear hA a; intro a hA
           refine D.valF hA rfl (fun _ => R.fieldAddr (q := 3) fi69_3 rfl rfl rfl) rfl ?_; clear hA a; intro a hA
           refine D.val hA rfl (by kernel_rfl) (fun _ hM => R.load sz3 rfl (hM.cell (k := 0) rfl rfl)) rfl ?_; clear hA a; intro a hA
           refine D.storeA (k := 5) hA hM rfl sz25 rfl rfl rfl rfl rfl rfl ?_; clear hM
           intro w20 hM; refine ⟨fun _ _ => ((hM.drop 5).drop 1), ?_⟩
           replace hM : Mem _ _ [pt b18 #[.int .i64 ((X.getD (2 + q) tz).k), .string ((X.getD (2 + q) tz).x), .int .i64 ((X.getD (2 + q) tz).n), .int .i64 ((X.getD (2 + q) tz).a)] 69, own 3 1 (.slice na (((nmI X 2 q)).length) nc) (((nmI X 2 q)).length) (((nmI X 2 q)).map (Value.int .i64)), pt b15 #[.int .i64 2, .int .i64 ((n : Int)), .int .i64 0, .slice none 0 0, .slice none 0 0, .slice none 0 0] 25, own 69 4 (.slice (some ⟨g8, 0, none⟩) X.length c6) X.length (tokv X), pt b3 cz0 25, pt b1 cz0 25] _ := hM
           refine D.valF hA rfl (fun _ => R.assign rfl) rfl ?_; clear hA a; intro a hA
           refine D.valF hA rfl (fun _ => R.assign rfl) rfl ?_; clear hA a; intro a hA
           refine D.done ?_
           replace hA : St 303 [(2, _), (3, _), (4, _), (5, _), (6, _), (9, _), (10, _), (12, _), (13, _), (14, _), (15, _), (16, _)] a := hA.sub ((.cons rfl (.cons rfl (.cons rfl (.cons rfl (.cons rfl (.cons rfl (.cons rfl (.cons rfl (.cons rfl (.cons rfl (.cons rfl (.cons rfl .nil)))))))))))))
           refine Ends.retC3 (k := 5) Tryd.func29 Tryd.results29 hA hM rfl rfl rfl rfl sz25 rfl ?_
           have hpb : pbR X = (6, (2 + q)) := pb_b hw0 rfl (bod2 hc0 hcn hMv.symm ((nuR_badP (f := ff) hall rfl (by rw [(numR_end (m := 2147483647) hc20).1]; decide) hqM).trans (by rw [(numR_end (m := 2147483647) hc20).1]))) (by decide)
           rw [prs_bad' hse hs0 hpb (by decide)]
           exact ⟨none, 0, none, 0, none, 0, rfl, nilI _, Mem.trans0 hbs hM.nilL⟩
          ·
           have kq3 : ¬ (X.getD (2 + q) tz).k = 3 := hc20
           have hjn := hX.next (2 + q) hjq kq3
           refine Ends.skip (Ends.seq (Ends.seq (Ends.region ?_)))
           refine S.val hA (R.fieldAddr (q := 0) fi69_0 rfl rfl rfl) rfl ?_; clear hA a; intro a hA
           refine S.val hA (R.load sz3 rfl (hM.cell (k := 0) rfl rfl)) rfl ?_; clear hA a; intro a hA
           refine S.val hA (R.eql rfl rfl) rfl ?_; clear hA a; intro a hA
           refine S.done ?_
           replace hA : St 303 [(2, _), (5, _), (6, _), (9, _), (10, _), (12, _), (13, _), (14, _), (15, _), (16, _), (163, _)] a := hA.sub ((.cons rfl (.cons rfl (.cons rfl (.cons rfl (.cons rfl (.cons rfl (.cons rfl (.cons rfl (.cons rfl (.cons rfl (.cons rfl .nil))))))))))))
           refine Ends.ite hA rfl (fun hc21 => ?_) (fun hc21 => ?_)
           ·
            refine Ends.seq ?_
            refine Ends.drawn (Mem w nof [pt b18 #[.int .i64 ((X.getD (2 + q) tz).k), .string ((X.getD (2 + q) tz).x), .int .i64 ((X.getD (2 + q) tz).n), .int .i64 ((X.getD (2 + q) tz).a)] 69, pt b15 #[.int .i64 2, .int .i64 ((n : Int)), .int .i64 0, .slice none 0 0, .slice none 0 0, .slice none 0 0] 25, own 69 4 (.slice (some ⟨g8, 0, none⟩) X.length c6) X.length (tokv X), pt b3 cz0 25]) (.cons (0, true) (.cons (1, true) (.cons (2, true) (.cons (3, false) (.cons (4, true) (.cons (5, true) .nil)))))) 6 mixed (by kernel_rfl) (by kernel_rfl) (by kernel_rfl) ((hM.drop 5).drop 1).drew ?_
            replace hM := hM.drew
            refine D.val hA rfl (by kernel_rfl) (fun _ hM => R.loadA sz25 rfl (hM.range (k := 3) rfl) rfl) rfl ?_; clear hA a; intro a hA
            refine D.valF hA rfl (fun _ => R.fieldAddr (q := 3) fi69_3 rfl rfl rfl) rfl ?_; clear hA a; intro a hA
            refine D.val hA rfl (by kernel_rfl) (fun _ hM => R.load sz3 rfl (hM.cell (k := 0) rfl rfl)) rfl ?_; clear hA a; intro a hA
            refine D.storeA (k := 5) hA hM rfl sz25 rfl rfl rfl rfl rfl rfl ?_; clear hM
            intro w21 hM; refine ⟨fun _ _ => ((hM.drop 5).drop 1), ?_⟩
            replace hM : Mem _ _ [pt b18 #[.int .i64 ((X.getD (2 + q) tz).k), .string ((X.getD (2 + q) tz).x), .int .i64 ((X.getD (2 + q) tz).n), .int .i64 ((X.getD (2 + q) tz).a)] 69, own 3 1 (.slice na (((nmI X 2 q)).length) nc) (((nmI X 2 q)).length) (((nmI X 2 q)).map (Value.int .i64)), pt b15 #[.int .i64 2, .int .i64 ((n : Int)), .int .i64 0, .slice none 0 0, .slice none 0 0, .slice none 0 0] 25, own 69 4 (.slice (some ⟨g8, 0, none⟩) X.length c6) X.length (tokv X), pt b3 cz0 25, pt b1 cz0 25] _ := hM
            refine D.valF hA rfl (fun _ => R.assign rfl) rfl ?_; clear hA a; intro a hA
            refine D.valF hA rfl (fun _ => R.assign rfl) rfl ?_; clear hA a; intro a hA
            refine D.done ?_
            replace hA : St 303 [(2, _), (3, _), (4, _), (5, _), (6, _), (9, _), (10, _), (12, _), (13, _), (14, _), (15, _), (16, _)] a := hA.sub ((.cons rfl (.cons rfl (.cons rfl (.cons rfl (.cons rfl (.cons rfl (.cons rfl (.cons rfl (.cons rfl (.cons rfl (.cons rfl (.cons rfl .nil)))))))))))))
            refine Ends.retC3 (k := 5) Tryd.func29 Tryd.results29 hA hM rfl rfl rfl rfl sz25 rfl ?_
            have hpb : pbR X = (4, (2 + q)) := pb_b hw0 rfl (bod2 hc0 hcn hMv.symm ((nuR_badP (f := ff) hall rfl (by rw [(numR_word (m := 2147483647) kq3 hc21).1]; decide) hqM).trans (by rw [(numR_word (m := 2147483647) kq3 hc21).1]))) (by decide)
            rw [prs_bad' hse hs0 hpb (by decide)]
            exact ⟨none, 0, none, 0, none, 0, rfl, nilI _, Mem.trans0 hbs hM.nilL⟩
           ·
            have kq1 : ¬ (X.getD (2 + q) tz).k = 1 := hc21
            refine Ends.skip (Ends.seq (Ends.seq (Ends.region ?_)))
            refine S.val hA (R.fieldAddr (q := 2) fi69_2 rfl rfl rfl) rfl ?_; clear hA a; intro a hA
            refine S.val hA (R.load sz3 rfl (hM.cell (k := 0) rfl rfl)) rfl ?_; clear hA a; intro a hA
            refine S.val hA (R.gtr rfl rfl) rfl ?_; clear hA a; intro a hA
            refine S.done ?_
            refine Ends.ite hA rfl (fun hc22 => ?_) (fun hc22 => ?_)
            ·
             refine Ends.seq ?_
             refine Ends.drawn (Mem w nof [pt b18 #[.int .i64 ((X.getD (2 + q) tz).k), .string ((X.getD (2 + q) tz).x), .int .i64 ((X.getD (2 + q) tz).n), .int .i64 ((X.getD (2 + q) tz).a)] 69, pt b15 #[.int .i64 2, .int .i64 ((n : Int)), .int .i64 0, .slice none 0 0, .slice none 0 0, .slice none 0 0] 25, own 69 4 (.slice (some ⟨g8, 0, none⟩) X.length c6) X.length (tokv X), pt b3 cz0 25]) (.cons (0, true) (.cons (1, true) (.cons (2, true) (.cons (3, false) (.cons (4, true) (.cons (5, true) .nil)))))) 6 mixed (by kernel_rfl) (by kernel_rfl) (by kernel_rfl) ((hM.drop 5).drop 1).drew ?_
             replace hM := hM.drew
             refine D.val hA rfl (by kernel_rfl) (fun _ hM => R.loadA sz25 rfl (hM.range (k := 3) rfl) rfl) rfl ?_; clear hA a; intro a hA
             refine D.valF hA rfl (fun _ => R.fieldAddr (q := 3) fi69_3 rfl rfl rfl) rfl ?_; clear hA a; intro a hA
             refine D.val hA rfl (by kernel_rfl) (fun _ hM => R.load sz3 rfl (hM.cell (k := 0) rfl rfl)) rfl ?_; clear hA a; intro a hA
             refine D.storeA (k := 5) hA hM rfl sz25 rfl rfl rfl rfl rfl rfl ?_; clear hM
             intro w22 hM; refine ⟨fun _ _ => ((hM.drop 5).drop 1), ?_⟩
             replace hM : Mem _ _ [pt b18 #[.int .i64 ((X.getD (2 + q) tz).k), .string ((X.getD (2 + q) tz).x), .int .i64 ((X.getD (2 + q) tz).n), .int .i64 ((X.getD (2 + q) tz).a)] 69, own 3 1 (.slice na (((nmI X 2 q)).length) nc) (((nmI X 2 q)).length) (((nmI X 2 q)).map (Value.int .i64)), pt b15 #[.int .i64 2, .int .i64 ((n : Int)), .int .i64 0, .slice none 0 0, .slice none 0 0, .slice none 0 0] 25, own 69 4 (.slice (some ⟨g8, 0, none⟩) X.length c6) X.length (tokv X), pt b3 cz0 25, pt b1 cz0 25] _ := hM
             refine D.valF hA rfl (fun _ => R.assign rfl) rfl ?_; clear hA a; intro a hA
             refine D.valF hA rfl (fun _ => R.assign rfl) rfl ?_; clear hA a; intro a hA
             refine D.done ?_
             replace hA : St 303 [(2, _), (3, _), (4, _), (5, _), (6, _), (9, _), (10, _), (12, _), (13, _), (14, _), (15, _), (16, _)] a := hA.sub ((.cons rfl (.cons rfl (.cons rfl (.cons rfl (.cons rfl (.cons rfl (.cons rfl (.cons rfl (.cons rfl (.cons rfl (.cons rfl (.cons rfl .nil)))))))))))))
             refine Ends.retC3 (k := 5) Tryd.func29 Tryd.results29 hA hM rfl rfl rfl rfl sz25 rfl ?_
             have hpb : pbR X = (5, (2 + q)) := pb_b hw0 rfl (bod2 hc0 hcn hMv.symm ((nuR_badP (f := ff) hall rfl (by rw [(numR_big (m := 2147483647) kq3 kq1 hc22).1]; decide) hqM).trans (by rw [(numR_big (m := 2147483647) kq3 kq1 hc22).1]))) (by decide)
             rw [prs_bad' hse hs0 hpb (by decide)]
             exact ⟨none, 0, none, 0, none, 0, rfl, nilI _, Mem.trans0 hbs hM.nilL⟩
            ·
             have hql : ¬ 2147483647 < (X.getD (2 + q) tz).n := hc22
             obtain ⟨hr0, hrn⟩ := numR_ok kq3 kq1 hql
             have hall2 := nuE_step hall rfl hr0 ff_no
             refine Ends.skip (Ends.seq (Ends.seq (Ends.region ?_)))
             refine S.val hA (R.move rfl) rfl ?_; clear hA a; intro a hA
             refine S.val hA (R.ff (R.eqlStr rfl rfl) (by first | decide | simp | omega)) rfl ?_; clear hA a; intro a hA
             refine S.val hA (R.move rfl) rfl ?_; clear hA a; intro a hA
             refine S.no (dj := 175) hA (by kernel_rfl) rfl rfl rfl ?_; clear hA a; intro a hA
             refine S.no (dj := 175) hA (by kernel_rfl) rfl rfl rfl ?_; clear hA a; intro a hA
             refine S.no (dj := 175) hA (by kernel_rfl) rfl rfl rfl ?_; clear hA a; intro a hA
             refine S.no (dj := 175) hA (by kernel_rfl) rfl rfl rfl ?_; clear hA a; intro a hA
             refine S.no (dj := 175) hA (by kernel_rfl) rfl rfl rfl ?_; clear hA a; intro a hA
             refine S.no (dj := 175) hA (by kernel_rfl) rfl rfl rfl ?_; clear hA a; intro a hA
             refine S.val hA (R.pickF rfl rfl) rfl ?_; clear hA a; intro a hA
             refine S.val hA (R.move rfl) rfl ?_; clear hA a; intro a hA
             refine S.no (dj := 183) hA (by kernel_rfl) rfl rfl rfl ?_; clear hA a; intro a hA
             refine S.no (dj := 183) hA (by kernel_rfl) rfl rfl rfl ?_; clear hA a; intro a hA
             refine S.no (dj := 183) hA (by kernel_rfl) rfl rfl rfl ?_; clear hA a; intro a hA
             refine S.val hA (R.pickF rfl rfl) rfl ?_; clear hA a; intro a hA
             refine S.done ?_
             replace hA : St 303 [(2, _), (5, _), (6, _), (9, _), (10, _), (12, _), (13, _), (14, _), (15, _), (16, _), (187, _)] a := hA.sub ((.cons rfl (.cons rfl (.cons rfl (.cons rfl (.cons rfl (.cons rfl (.cons rfl (.cons rfl (.cons rfl (.cons rfl (.cons rfl .nil))))))))))))
             refine Ends.condF hA rfl ?_
             refine Ends.skip (Ends.seq (Ends.region ?_))
             refine S.val hA (R.move rfl) rfl ?_; clear hA a; intro a hA
             refine S.val hA (R.fieldAddr (q := 2) fi69_2 rfl rfl rfl) rfl ?_; clear hA a; intro a hA
             refine S.val hA (R.load sz3 rfl (hM.cell (k := 0) rfl rfl)) rfl ?_; clear hA a; intro a hA
             refine S.buildSl (cells := #[.int .i64 ((X.getD (2 + q) tz).n)]) hA hM Tryd.underlying22 info3 rfl rfl rfl rfl (by kernel_rfl) rfl ?_; clear hA hM a; intro b23 w23 hb24 hM a hA
             replace hM : Mem _ _ [pt b23 #[.int .i64 ((X.getD (2 + q) tz).n)] 3, pt b18 #[.int .i64 ((X.getD (2 + q) tz).k), .string ((X.getD (2 + q) tz).x), .int .i64 ((X.getD (2 + q) tz).n), .int .i64 ((X.getD (2 + q) tz).a)] 69, own 3 1 (.slice na (((nmI X 2 q)).length) nc) (((nmI X 2 q)).length) (((nmI X 2 q)).map (Value.int .i64)), pt b15 #[.int .i64 2, .int .i64 ((n : Int)), .int .i64 0, .slice none 0 0, .slice none 0 0, .slice none 0 0] 25, own 69 4 (.slice (some ⟨g8, 0, none⟩) X.length c6) X.length (tokv X), pt b3 cz0 25, pt b1 cz0 25] _ := hM
             refine S.append (k := 2) (k2 := 0) hA hM rfl rfl Tryd.underlying22 info3 rfl rfl rfl rfl rfl rfl rfl rfl rfl (by first | (rw [nmI_len]; first | (unfold maxLen; omega) | (show (q + 1) * 8 ≤ 140737488355328; omega)) | (rw [itI_len]; first | (unfold maxLen; omega) | (show (k + 1) * 8 ≤ 140737488355328; omega)) | (rw [hlr]; first | (unfold maxLen; omega) | (show (r + 1) * 24 ≤ 140737488355328; omega))) (by first | (rw [nmI_len]; first | (unfold maxLen; omega) | (show (q + 1) * 8 ≤ 140737488355328; omega)) | (rw [itI_len]; first | (unfold maxLen; omega) | (show (k + 1) * 8 ≤ 140737488355328; omega)) | (rw [hlr]; first | (unfold maxLen; omega) | (show (r + 1) * 24 ≤ 140737488355328; omega))) rfl ?_; clear hA hM a; intro a25 c26 w24 hM a hA
             replace hM : Mem _ _ [pt b23 #[.int .i64 ((X.getD (2 + q) tz).n)] 3, pt b18 #[.int .i64 ((X.getD (2 + q) tz).k), .string ((X.getD (2 + q) tz).x), .int .i64 ((X.getD (2 + q) tz).n), .int .i64 ((X.getD (2 + q) tz).a)] 69, own 3 1 (.slice a25 ((((nmI X 2 q)).length) + 1) c26) ((((nmI X 2 q)).length) + 1) (((nmI X 2 q)).map (Value.int .i64) ++ [.int .i64 ((X.getD (2 + q) tz).n)]), pt b15 #[.int .i64 2, .int .i64 ((n : Int)), .int .i64 0, .slice none 0 0, .slice none 0 0, .slice none 0 0] 25, own 69 4 (.slice (some ⟨g8, 0, none⟩) X.length c6) X.length (tokv X), pt b3 cz0 25, pt b1 cz0 25] _ := hM
             have hl27 : (((nmI X 2 q)).length) + 1 = ((nmI X 2 q) ++ [(X.getD (2 + q) tz).n]).length := by simp
             rw [hl27, show ((nmI X 2 q)).map (Value.int .i64) ++ [.int .i64 ((X.getD (2 + q) tz).n)] = ((nmI X 2 q) ++ [(X.getD (2 + q) tz).n]).map (Value.int .i64) by simp] at hM; rw [hl27] at hA
             clear hl27
             replace hM := hM.drop 0
             replace hM : Mem _ _ [pt b18 #[.int .i64 ((X.getD (2 + q) tz).k), .string ((X.getD (2 + q) tz).x), .int .i64 ((X.getD (2 + q) tz).n), .int .i64 ((X.getD (2 + q) tz).a)] 69, own 3 1 (.slice a25 ((((nmI X 2 q) ++ [(X.getD (2 + q) tz).n])).length) c26) ((((nmI X 2 q) ++ [(X.getD (2 + q) tz).n])).length) ((((nmI X 2 q) ++ [(X.getD (2 + q) tz).n])).map (Value.int .i64)), pt b15 #[.int .i64 2, .int .i64 ((n : Int)), .int .i64 0, .slice none 0 0, .slice none 0 0, .slice none 0 0] 25, own 69 4 (.slice (some ⟨g8, 0, none⟩) X.length c6) X.length (tokv X), pt b3 cz0 25, pt b1 cz0 25] _ := hM
             refine S.val hA (R.assign rfl) rfl ?_; clear hA a; intro a hA
             refine S.done ?_
             replace hA : St 303 [(2, _), (5, _), (6, _), (9, _), (10, _), (12, _), (13, _), (14, _), (15, _)] a := hA.sub ((.cons rfl (.cons rfl (.cons rfl (.cons rfl (.cons rfl (.cons rfl (.cons rfl (.cons rfl (.cons rfl .nil))))))))))
             refine Ends.region ?_
             refine S.val hA (R.move rfl) rfl ?_; clear hA a; intro a hA
             refine S.val hA (R.addI rfl rfl (r := ((2 + (q + 1) : Nat) : Int)) (by first | omega | (rw [nmI_len]; omega) | (simp only [nmI_len]; omega)) (by first | omega | (rw [nmI_len]; omega) | (simp only [nmI_len]; omega))) rfl ?_; clear hA a; intro a hA
             refine S.val hA (R.assign rfl) rfl ?_; clear hA a; intro a hA
             refine S.done ?_
             refine Ends.inBlock (Ends.region ?_)
             refine S.val hA (R.move rfl) rfl ?_; clear hA a; intro a hA
             refine S.val hA (R.subI rfl rfl (r := ((M - (q + 1) : Nat) : Int)) (by first | omega | (rw [nmI_len]; omega) | (simp only [nmI_len]; omega)) (by first | omega | (rw [nmI_len]; omega) | (simp only [nmI_len]; omega))) rfl ?_; clear hA a; intro a hA
             refine S.val hA (R.assign rfl) rfl ?_; clear hA a; intro a hA
             refine S.done ?_
             replace hA : St 303 [(2, _), (5, _), (6, _), (9, _), (10, _), (12, _), (13, _), (14, _), (15, _)] a := hA.sub ((.cons rfl (.cons rfl (.cons rfl (.cons rfl (.cons rfl (.cons rfl (.cons rfl (.cons rfl (.cons rfl .nil))))))))))
             replace hM := hM.front (k := 1) rfl
             replace hM : Mem _ _ [own 3 1 (.slice a25 ((((nmI X 2 q) ++ [(X.getD (2 + q) tz).n])).length) c26) ((((nmI X 2 q) ++ [(X.getD (2 + q) tz).n])).length) ((((nmI X 2 q) ++ [(X.getD (2 + q) tz).n])).map (Value.int .i64)), pt b18 #[.int .i64 ((X.getD (2 + q) tz).k), .string ((X.getD (2 + q) tz).x), .int .i64 ((X.getD (2 + q) tz).n), .int .i64 ((X.getD (2 + q) tz).a)] 69, pt b15 #[.int .i64 2, .int .i64 ((n : Int)), .int .i64 0, .slice none 0 0, .slice none 0 0, .slice none 0 0] 25, own 69 4 (.slice (some ⟨g8, 0, none⟩) X.length c6) X.length (tokv X), pt b3 cz0 25, pt b1 cz0 25] _ := hM
             replace hM := hM.front (k := 5) rfl
             replace hM := hM.front (k := 5) rfl
             replace hM := hM.front (k := 5) rfl
             replace hM := hM.front (k := 5) rfl
             replace hM := hM.front (k := 4) rfl
             replace hM : Mem _ _ [own 3 1 (.slice a25 ((((nmI X 2 q) ++ [(X.getD (2 + q) tz).n])).length) c26) ((((nmI X 2 q) ++ [(X.getD (2 + q) tz).n])).length) ((((nmI X 2 q) ++ [(X.getD (2 + q) tz).n])).map (Value.int .i64)), pt b15 #[.int .i64 2, .int .i64 ((n : Int)), .int .i64 0, .slice none 0 0, .slice none 0 0, .slice none 0 0] 25, own 69 4 (.slice (some ⟨g8, 0, none⟩) X.length c6) X.length (tokv X), pt b3 cz0 25, pt b1 cz0 25, pt b18 #[.int .i64 ((X.getD (2 + q) tz).k), .string ((X.getD (2 + q) tz).x), .int .i64 ((X.getD (2 + q) tz).n), .int .i64 ((X.getD (2 + q) tz).a)] 69] _ := hM
             replace hM := hM.firstN 5
             rw [show ((nmI X 2 q) ++ [(X.getD (2 + q) tz).n]) = nmI X 2 (q + 1) from nmI_snoc X 2 q] at hM hA
             exact hNext ((q + 1, a25, c26)) _ _ ((by show M - (q + 1) < M - q; omega)) ⟨hA.sub ((.cons rfl (.cons rfl (.cons rfl (.cons rfl (.cons rfl (.cons rfl (.cons rfl (.cons rfl (.cons rfl .nil)))))))))), hM, (by omega), hjn, hall2⟩
         ·
          have hqM : q = M := by omega
          subst hqM
          refine Ends.exit rfl ?_
          refine Ends.seq (Ends.seq (Ends.region ?_))
          refine S.val hA (R.move rfl) rfl ?_; clear hA a; intro a hA
          refine S.val hA (R.move rfl) rfl ?_; clear hA a; intro a hA
          refine S.val hA (R.indexAddr (q := (2 + q) * 4) sl65 rfl rfl (by first | omega | (rw [nmI_len]; omega) | (simp only [nmI_len]; omega)) (by first | omega | (rw [nmI_len]; omega) | (simp only [nmI_len]; omega))) rfl ?_; clear hA a; intro a hA
          refine S.val hA (R.fieldAddr (q := (2 + q) * 4 + 0) fi69_0 rfl rfl rfl) rfl ?_; clear hA a; intro a hA
          refine S.val hA (R.load sz3 rfl (hM.tokRow (k := 2) rfl (i := (2 + q)) (by omega) 0 _ rfl)) rfl ?_; clear hA a; intro a hA
          refine S.val hA (R.neq rfl rfl) rfl ?_; clear hA a; intro a hA
          refine S.done ?_
          replace hA : St 303 [(2, _), (5, _), (6, _), (9, _), (10, _), (12, _), (13, _), (14, _), (203, _)] a := hA.sub ((.cons rfl (.cons rfl (.cons rfl (.cons rfl (.cons rfl (.cons rfl (.cons rfl (.cons rfl (.cons rfl .nil))))))))))
          refine Ends.ite hA rfl (fun hc28 => ?_) (fun hc28 => ?_)
          ·
           refine Ends.seq ?_
           refine Ends.drawn (Mem w nof [pt b15 #[.int .i64 2, .int .i64 ((n : Int)), .int .i64 0, .slice none 0 0, .slice none 0 0, .slice none 0 0] 25, own 69 4 (.slice (some ⟨g8, 0, none⟩) X.length c6) X.length (tokv X), pt b3 cz0 25]) (.cons (0, true) (.cons (1, true) (.cons (2, true) (.cons (3, true) (.cons (4, true) (.cons (5, true) (.cons (6, false) (.cons (7, true) (.cons (8, true) .nil))))))))) 9 mixed (by kernel_rfl) (by kernel_rfl) (by kernel_rfl) ((hM.drop 4).drop 0).drew ?_
           replace hM := hM.drew
           refine D.val hA rfl (by kernel_rfl) (fun _ hM => R.loadA sz25 rfl (hM.range (k := 2) rfl) rfl) rfl ?_; clear hA a; intro a hA
           refine D.valF hA rfl (fun _ => R.move rfl) rfl ?_; clear hA a; intro a hA
           refine D.valF hA rfl (fun _ => R.move rfl) rfl ?_; clear hA a; intro a hA
           refine D.valF hA rfl (fun _ => R.indexAddr (q := (2 + q) * 4) sl65 rfl rfl (by first | omega | (rw [nmI_len]; omega) | (simp only [nmI_len]; omega)) (by first | omega | (rw [nmI_len]; omega) | (simp only [nmI_len]; omega))) rfl ?_; clear hA a; intro a hA
           refine D.valF hA rfl (fun _ => R.fieldAddr (q := (2 + q) * 4 + 3) fi69_3 rfl rfl rfl) rfl ?_; clear hA a; intro a hA
           refine D.val hA rfl (by kernel_rfl) (fun _ hM => R.load sz3 rfl (hM.tokRow (k := 1) rfl (i := (2 + q)) (by omega) 3 _ rfl)) rfl ?_; clear hA a; intro a hA
           refine D.storeA (k := 4) hA hM rfl sz25 rfl rfl rfl rfl rfl rfl ?_; clear hM
           intro w25 hM; refine ⟨fun _ _ => ((hM.drop 4).drop 0), ?_⟩
           replace hM : Mem _ _ [own 3 1 (.slice na (((nmI X 2 q)).length) nc) (((nmI X 2 q)).length) (((nmI X 2 q)).map (Value.int .i64)), pt b15 #[.int .i64 2, .int .i64 ((n : Int)), .int .i64 0, .slice none 0 0, .slice none 0 0, .slice none 0 0] 25, own 69 4 (.slice (some ⟨g8, 0, none⟩) X.length c6) X.length (tokv X), pt b3 cz0 25, pt b1 cz0 25] _ := hM
           refine D.valF hA rfl (fun _ => R.assign rfl) rfl ?_; clear hA a; intro a hA
           refine D.valF hA rfl (fun _ => R.assign rfl) rfl ?_; clear hA a; intro a hA
           refine D.done ?_
           replace hA : St 303 [(2, _), (3, _), (4, _), (9, _), (10, _), (12, _), (14, _)] a := hA.sub ((.cons rfl (.cons rfl (.cons rfl (.cons rfl (.cons rfl (.cons rfl (.cons rfl .nil))))))))
           refine Ends.retC3 (k := 4) Tryd.func29 Tryd.results29 hA hM rfl rfl rfl rfl sz25 rfl ?_
           have hpb : pbR X = (7, (2 + q)) := (pb_e hw0 rfl (bod2 hc0 hcn hMv.symm (nuR_ok hall))).trans (by rw [show endR (X.getD (2 + q) tz) = 7 from if_pos hc28])
           rw [prs_bad' hse hs0 hpb (by decide)]
           exact ⟨none, 0, none, 0, none, 0, rfl, nilI _, Mem.trans0 hbs hM.nilL⟩
          ·
           have hpbE : pbR X = (0, 2 + q) := (pb_e hw0 rfl (bod2 hc0 hcn hMv.symm (nuR_ok hall))).trans (by rw [show endR (X.getD (2 + q) tz) = 0 from if_neg hc28])
           refine Ends.skip (Ends.seq (Ends.seq (Ends.region ?_)))
           refine S.val hA (R.fieldAddr (q := 0) fi25_0 rfl rfl rfl) rfl ?_; clear hA a; intro a hA
           refine S.val hA (R.load sz3 rfl (hM.cell (k := 1) rfl rfl)) rfl ?_; clear hA a; intro a hA
           refine S.val hA (R.ff (R.eql rfl rfl) (by first | decide | simp | omega)) rfl ?_; clear hA a; intro a hA
           refine S.done ?_
           replace hA : St 303 [(2, _), (9, _), (10, _), (12, _), (14, _), (212, _)] a := hA.sub ((.cons rfl (.cons rfl (.cons rfl (.cons rfl (.cons rfl (.cons rfl .nil)))))))
           refine Ends.condF hA rfl ?_
           refine Ends.skip (Ends.seq (Ends.region ?_))
           refine S.val hA (R.assign rfl) rfl ?_; clear hA a; intro a hA
           refine S.done ?_
           refine Ends.seq (Ends.seq (Ends.region ?_))
           refine S.val hA (R.assign rfl) rfl ?_; clear hA a; intro a hA
           refine S.done ?_
           refine Ends.block ?_
           replace hM := (hM.bundleNil (e := 3)).ownNil 22 1
           replace hM : Mem _ _ [own 22 1 (.slice none (([] : List OwR).length) 0) (([] : List OwR).length) ((([] : List OwR).map orV)), bundle (([] : List OwR).map (orC 3)), own 3 1 (.slice na (((nmI X 2 q)).length) nc) (((nmI X 2 q)).length) (((nmI X 2 q)).map (Value.int .i64)), pt b15 #[.int .i64 2, .int .i64 ((n : Int)), .int .i64 0, .slice none 0 0, .slice none 0 0, .slice none (([] : List OwR).length) 0] 25, own 69 4 (.slice (some ⟨g8, 0, none⟩) X.length c6) X.length (tokv X), pt b3 cz0 25, pt b1 cz0 25] _ := hM
           refine Ends.loop (σ := Nat × List OwR × Option Addr × Nat) (fun (r, rs, ac, cc) (a : Act) (wv : World) => St 303 [(2, .pointer (some ⟨b1, 0, none⟩)), (9, .string (⟨#[65, 83, 83, 73, 71, 78, 77, 69, 78, 84]⟩)), (10, .int .i64 ((n : Int))), (12, .pointer (some ⟨b15, 0, none⟩)), (14, .slice na ((nmI X 2 q).length) nc), (19, .int .i64 ((r : Int)))] a ∧ Mem w nof [own 22 1 (.slice ac rs.length cc) rs.length ((rs.map orV)), bundle (rs.map (orC 3)), own 3 1 (.slice na (((nmI X 2 q)).length) nc) (((nmI X 2 q)).length) (((nmI X 2 q)).map (Value.int .i64)), pt b15 #[.int .i64 2, .int .i64 ((n : Int)), .int .i64 0, .slice none 0 0, .slice none 0 0, .slice ac rs.length cc] 25, own 69 4 (.slice (some ⟨g8, 0, none⟩) X.length c6) X.length (tokv X), pt b3 cz0 25, pt b1 cz0 25] wv ∧ (r ≤ n) ∧ (rs.map (·.Y) = matK n (rwI X 2 n) r)) (fun (r, rs, ac, cc) => n - r) ((0, [], none, 0)) ⟨hA.sub ((.cons rfl (.cons rfl (.cons rfl (.cons rfl (.cons rfl (.cons rfl .nil))))))), hM, (Nat.zero_le _), rfl⟩ ?_
           clear hA hM a
           rintro ⟨r, rs, ac, cc⟩ a w26 ⟨hA, hM, hr, hYs⟩ hNext2
           refine Ends.seq (Ends.seq (Ends.region ?_))
           refine S.val hA (R.move rfl) rfl ?_; clear hA a; intro a hA
           refine S.val hA (R.move rfl) rfl ?_; clear hA a; intro a hA
           refine S.val hA (R.lss rfl rfl) rfl ?_; clear hA a; intro a hA
           refine S.done ?_
           refine Ends.ite hA rfl (fun hc29 => ?_) (fun hc29 => ?_)
           ·
            have hrn9 : r < n := by omega
            have hlr := matK_len hYs
            refine Ends.skip (Ends.seq (Ends.block (Ends.seq (Ends.region ?_))))
            refine S.val hA (R.move rfl) rfl ?_; clear hA a; intro a hA
            refine S.make hA hM Tryd.underlying22 info3 rfl rfl rfl (by first | omega | (rw [nmI_len]; omega) | (simp only [nmI_len]; omega)) (by show (8 : Int) * _ ≤ _; omega) (by first | omega | (rw [nmI_len]; omega) | (simp only [nmI_len]; omega)) rfl ?_; clear hA hM a; intro b30 w27 hb31 hM a hA
            replace hM : Mem _ _ [pt b30 (madeCells #[.int .i64 0] (n * 1)) 3, own 22 1 (.slice ac rs.length cc) rs.length ((rs.map orV)), bundle (rs.map (orC 3)), own 3 1 (.slice na (((nmI X 2 q)).length) nc) (((nmI X 2 q)).length) (((nmI X 2 q)).map (Value.int .i64)), pt b15 #[.int .i64 2, .int .i64 ((n : Int)), .int .i64 0, .slice none 0 0, .slice none 0 0, .slice ac rs.length cc] 25, own 69 4 (.slice (some ⟨g8, 0, none⟩) X.length c6) X.length (tokv X), pt b3 cz0 25, pt b1 cz0 25] _ := hM
            rw [Nat.mul_one, made_ints] at hM
            replace hM : Mem _ _ [pt b30 ((ints (List.replicate n 0))) 3, own 22 1 (.slice ac rs.length cc) rs.length ((rs.map orV)), bundle (rs.map (orC 3)), own 3 1 (.slice na (((nmI X 2 q)).length) nc) (((nmI X 2 q)).length) (((nmI X 2 q)).map (Value.int .i64)), pt b15 #[.int .i64 2, .int .i64 ((n : Int)), .int .i64 0, .slice none 0 0, .slice none 0 0, .slice ac rs.length cc] 25, own 69 4 (.slice (some ⟨g8, 0, none⟩) X.length c6) X.length (tokv X), pt b3 cz0 25, pt b1 cz0 25] _ := hM
            refine S.val hA (R.assign rfl) rfl ?_; clear hA a; intro a hA
            refine S.done ?_
            replace hA : St 303 [(2, _), (9, _), (10, _), (12, _), (14, _), (19, _), (20, _)] a := hA.sub ((.cons rfl (.cons rfl (.cons rfl (.cons rfl (.cons rfl (.cons rfl (.cons rfl .nil))))))))
            refine Ends.seq (Ends.seq (Ends.region ?_))
            refine S.val hA (R.assign rfl) rfl ?_; clear hA a; intro a hA
            refine S.done ?_
            refine Ends.block ?_
            replace hM := hM.ptOwn (n := n) ((by simp)) (by omega)
            replace hM : Mem _ _ [own 3 1 (.slice ((some ⟨b30, 0, none⟩)) (((List.replicate n (0 : Int))).length) n) (((List.replicate n (0 : Int))).length) (((List.replicate n (0 : Int))).map (Value.int .i64)), own 22 1 (.slice ac rs.length cc) rs.length ((rs.map orV)), bundle (rs.map (orC 3)), own 3 1 (.slice na (((nmI X 2 q)).length) nc) (((nmI X 2 q)).length) (((nmI X 2 q)).map (Value.int .i64)), pt b15 #[.int .i64 2, .int .i64 ((n : Int)), .int .i64 0, .slice none 0 0, .slice none 0 0, .slice ac rs.length cc] 25, own 69 4 (.slice (some ⟨g8, 0, none⟩) X.length c6) X.length (tokv X), pt b3 cz0 25, pt b1 cz0 25] _ := hM
            rw [List.length_replicate] at hM
            replace hM : Mem _ _ [own 3 1 (.slice ((some ⟨b30, 0, none⟩)) n n) n (((List.replicate n (0 : Int))).map (Value.int .i64)), own 22 1 (.slice ac rs.length cc) rs.length ((rs.map orV)), bundle (rs.map (orC 3)), own 3 1 (.slice na (((nmI X 2 q)).length) nc) (((nmI X 2 q)).length) (((nmI X 2 q)).map (Value.int .i64)), pt b15 #[.int .i64 2, .int .i64 ((n : Int)), .int .i64 0, .slice none 0 0, .slice none 0 0, .slice ac rs.length cc] 25, own 69 4 (.slice (some ⟨g8, 0, none⟩) X.length c6) X.length (tokv X), pt b3 cz0 25, pt b1 cz0 25] _ := hM
            refine Ends.loop (σ := Nat × List Int) (fun (c_, Y) (a : Act) (wv : World) => St 303 [(2, .pointer (some ⟨b1, 0, none⟩)), (9, .string (⟨#[65, 83, 83, 73, 71, 78, 77, 69, 78, 84]⟩)), (10, .int .i64 ((n : Int))), (12, .pointer (some ⟨b15, 0, none⟩)), (14, .slice na ((nmI X 2 q).length) nc), (19, .int .i64 ((r : Int))), (20, .slice ((some ⟨b30, 0, none⟩)) n n), (21, .int .i64 ((c_ : Int)))] a ∧ Mem w nof [own 3 1 (.slice ((some ⟨b30, 0, none⟩)) n n) n (Y.map (Value.int .i64)), own 22 1 (.slice ac rs.length cc) rs.length ((rs.map orV)), bundle (rs.map (orC 3)), own 3 1 (.slice na (((nmI X 2 q)).length) nc) (((nmI X 2 q)).length) (((nmI X 2 q)).map (Value.int .i64)), pt b15 #[.int .i64 2, .int .i64 ((n : Int)), .int .i64 0, .slice none 0 0, .slice none 0 0, .slice ac rs.length cc] 25, own 69 4 (.slice (some ⟨g8, 0, none⟩) X.length c6) X.length (tokv X), pt b3 cz0 25, pt b1 cz0 25] wv ∧ (c_ ≤ n) ∧ (Y = (List.range n).map fun q => if q < c_ then (rwI X 2 n) r q else 0) ∧ (Y.length = n)) (fun (c_, Y) => n - c_) ((0, List.replicate n 0)) ⟨hA.sub ((.cons rfl (.cons rfl (.cons rfl (.cons rfl (.cons rfl (.cons rfl (.cons rfl (.cons rfl .nil))))))))), hM, (Nat.zero_le _), row_zero, List.length_replicate⟩ ?_
            clear hA hM a
            rintro ⟨c_, Y⟩ a w28 ⟨hA, hM, hc, hYc, hYl⟩ hNext3
            refine Ends.seq (Ends.seq (Ends.region ?_))
            refine S.val hA (R.move rfl) rfl ?_; clear hA a; intro a hA
            refine S.val hA (R.move rfl) rfl ?_; clear hA a; intro a hA
            refine S.val hA (R.lss rfl rfl) rfl ?_; clear hA a; intro a hA
            refine S.done ?_
            refine Ends.ite hA rfl (fun hc32 => ?_) (fun hc32 => ?_)
            ·
             have hcn9 : c_ < n := by omega
             have hidx := idx_lt hrn9 hcn9
             have hidxM : r * n + c_ < q := by omega
             refine Ends.skip (Ends.seq (Ends.block (Ends.seq (Ends.region ?_))))
             refine S.val hA (R.move rfl) rfl ?_; clear hA a; intro a hA
             refine S.val hA (R.tt (R.neqStr rfl rfl) (by first | decide | simp | omega)) rfl ?_; clear hA a; intro a hA
             refine S.done ?_
             replace hA : St 303 [(2, _), (9, _), (10, _), (12, _), (14, _), (19, _), (20, _), (21, _), (258, _)] a := hA.sub ((.cons rfl (.cons rfl (.cons rfl (.cons rfl (.cons rfl (.cons rfl (.cons rfl (.cons rfl (.cons rfl .nil))))))))))
             refine Ends.condT hA rfl ?_
             refine Ends.region ?_
             refine S.val hA (R.move rfl) rfl ?_; clear hA a; intro a hA
             refine S.val hA (R.move rfl) rfl ?_; clear hA a; intro a hA
             refine S.val hA (R.move rfl) rfl ?_; clear hA a; intro a hA
             refine S.val hA (R.move rfl) rfl ?_; clear hA a; intro a hA
             refine S.val hA (R.move rfl) rfl ?_; clear hA a; intro a hA
             refine S.val hA (R.mulI rfl rfl (r := ((r * n : Nat) : Int)) (by first | omega | (rw [nmI_len]; omega) | (simp only [nmI_len]; omega)) (by first | omega | (rw [nmI_len]; omega) | (simp only [nmI_len]; omega))) rfl ?_; clear hA a; intro a hA
             refine S.val hA (R.move rfl) rfl ?_; clear hA a; intro a hA
             refine S.val hA (R.addI rfl rfl (r := ((r * n + c_ : Nat) : Int)) (by first | omega | (rw [nmI_len]; omega) | (simp only [nmI_len]; omega)) (by first | omega | (rw [nmI_len]; omega) | (simp only [nmI_len]; omega))) rfl ?_; clear hA a; intro a hA
             refine S.val hA (R.idxI (hM.rsl (k := 3) rfl) (j := (((r * n + c_ : Nat) : Int)).toNat) sl22 rfl rfl (by first | omega | (rw [nmI_len]; omega) | (simp only [nmI_len]; omega)) (rfl)) rfl ?_; clear hA a; intro a hA
             refine S.val hA (R.loadI (hM.rsl (k := 3) rfl) sz3 rfl (by first | omega | (rw [nmI_len]; omega) | (simp only [nmI_len]; omega))) rfl ?_; clear hA a; intro a hA
             refine S.val hA (R.indexAddr (q := c_) sl22 rfl rfl (by first | omega | (rw [nmI_len]; omega) | (simp only [nmI_len]; omega)) (by first | omega | (rw [nmI_len]; omega) | (simp only [nmI_len]; omega))) rfl ?_; clear hA a; intro a hA
             refine S.storeO (k := 0) hA hM sz3 rfl rfl rfl rfl (mapi_get Y c_ (by first | omega | (simp only [List.length_set]; omega) | (simp; done))) ?_; clear hM; intro w29 hM; rw [mapi_set] at hM
             replace hM : Mem _ _ [own 3 1 (.slice ((some ⟨b30, 0, none⟩)) n n) n (((Y.set c_ (((nmI X 2 q)).getD ((((r * n + c_ : Nat) : Int)).toNat) 0))).map (Value.int .i64)), own 22 1 (.slice ac rs.length cc) rs.length ((rs.map orV)), bundle (rs.map (orC 3)), own 3 1 (.slice na (((nmI X 2 q)).length) nc) (((nmI X 2 q)).length) (((nmI X 2 q)).map (Value.int .i64)), pt b15 #[.int .i64 2, .int .i64 ((n : Int)), .int .i64 0, .slice none 0 0, .slice none 0 0, .slice ac rs.length cc] 25, own 69 4 (.slice (some ⟨g8, 0, none⟩) X.length c6) X.length (tokv X), pt b3 cz0 25, pt b1 cz0 25] _ := hM
             refine S.done ?_
             replace hA : St 303 [(2, _), (9, _), (10, _), (12, _), (14, _), (19, _), (20, _), (21, _)] a := hA.sub ((.cons rfl (.cons rfl (.cons rfl (.cons rfl (.cons rfl (.cons rfl (.cons rfl (.cons rfl .nil)))))))))
             refine Ends.inBlock (Ends.region ?_)
             refine S.val hA (R.move rfl) rfl ?_; clear hA a; intro a hA
             refine S.val hA (R.addI rfl rfl (r := ((c_ : Int)) + 1) rfl (by first | omega | (rw [nmI_len]; omega) | (simp only [nmI_len]; omega))) rfl ?_; clear hA a; intro a hA
             refine S.val hA (R.assign rfl) rfl ?_; clear hA a; intro a hA
             refine S.done ?_
             replace hM := hM.front (k := 7) rfl
             replace hM := hM.front (k := 7) rfl
             replace hM := hM.front (k := 7) rfl
             replace hM := hM.front (k := 7) rfl
             replace hM := hM.front (k := 7) rfl
             replace hM := hM.front (k := 7) rfl
             replace hM := hM.front (k := 7) rfl
             replace hM := hM.front (k := 7) rfl
             replace hM : Mem _ _ [own 3 1 (.slice ((some ⟨b30, 0, none⟩)) n n) n (((Y.set c_ (((nmI X 2 q)).getD ((((r * n + c_ : Nat) : Int)).toNat) 0))).map (Value.int .i64)), own 22 1 (.slice ac rs.length cc) rs.length ((rs.map orV)), bundle (rs.map (orC 3)), own 3 1 (.slice na (((nmI X 2 q)).length) nc) (((nmI X 2 q)).length) (((nmI X 2 q)).map (Value.int .i64)), pt b15 #[.int .i64 2, .int .i64 ((n : Int)), .int .i64 0, .slice none 0 0, .slice none 0 0, .slice ac rs.length cc] 25, own 69 4 (.slice (some ⟨g8, 0, none⟩) X.length c6) X.length (tokv X), pt b3 cz0 25, pt b1 cz0 25] _ := hM
             exact hNext3 ((c_ + 1, (Y.set c_ (((nmI X 2 q)).getD ((((r * n + c_ : Nat) : Int)).toNat) 0)))) _ _ ((by show n - (c_ + 1) < n - c_; omega)) ⟨hA.sub ((.cons rfl (.cons rfl (.cons rfl (.cons rfl (.cons rfl (.cons rfl (.cons rfl (.cons rfl .nil))))))))), hM, (by omega), (row_step hYc (nmI_at hidxM)), (by first | exact hYl | (rw [List.length_set]; exact hYl))⟩
            ·
             refine Ends.exit rfl ?_
             replace hA : St 303 [(2, _), (9, _), (10, _), (12, _), (14, _), (19, _), (20, _)] a := hA.sub ((.cons rfl (.cons rfl (.cons rfl (.cons rfl (.cons rfl (.cons rfl (.cons rfl .nil))))))))
             replace hM : Mem _ _ [own 3 1 (.slice ((some ⟨b30, 0, none⟩)) n n) n (Y.map (Value.int .i64)), own 22 1 (.slice ac rs.length cc) rs.length ((rs.map orV)), bundle (rs.map (orC 3)), own 3 1 (.slice na (((nmI X 2 q)).length) nc) (((nmI X 2 q)).length) (((nmI X 2 q)).map (Value.int .i64)), pt b15 #[.int .i64 2, .int .i64 ((n : Int)), .int .i64 0, .slice none 0 0, .slice none 0 0, .slice ac rs.length cc] 25, own 69 4 (.slice (some ⟨g8, 0, none⟩) X.length c6) X.length (tokv X), pt b3 cz0 25, pt b1 cz0 25] _ := hM
             have hMr := hM.eqL (L2 := [own 3 1 (.slice ((some ⟨b30, 0, none⟩)) Y.length n) Y.length (Y.map (Value.int .i64)), own 22 1 (.slice ac rs.length cc) rs.length ((rs.map orV)), bundle (rs.map (orC 3)), own 3 1 (.slice na (((nmI X 2 q)).length) nc) (((nmI X 2 q)).length) (((nmI X 2 q)).map (Value.int .i64)), pt b15 #[.int .i64 2, .int .i64 ((n : Int)), .int .i64 0, .slice none 0 0, .slice none 0 0, .slice ac rs.length cc] 25, own 69 4 (.slice (some ⟨g8, 0, none⟩) X.length c6) X.length (tokv X), pt b3 cz0 25, pt b1 cz0 25]) (by rw [hYl])
             replace hM := hMr
             rw [show (Value.slice ((some ⟨b30, 0, none⟩)) n n) = Value.slice ((some ⟨b30, 0, none⟩)) Y.length n by rw [hYl]] at hA
             refine Ends.region ?_
             refine S.val hA (R.fieldAddr (q := 5) fi25_5 rfl rfl rfl) rfl ?_; clear hA a; intro a hA
             refine S.val hA (R.load sz23 rfl (hM.cell (k := 4) rfl rfl)) rfl ?_; clear hA a; intro a hA
             refine S.val hA (R.move rfl) rfl ?_; clear hA a; intro a hA
             refine S.buildSl (cells := #[.slice ((some ⟨b30, 0, none⟩)) Y.length n]) hA hM Tryd.underlying23 info22 rfl rfl rfl rfl (by kernel_rfl) rfl ?_; clear hA hM a; intro b33 w30 hb34 hM a hA
             replace hM : Mem _ _ [pt b33 #[.slice ((some ⟨b30, 0, none⟩)) Y.length n] 22, own 3 1 (.slice ((some ⟨b30, 0, none⟩)) Y.length n) Y.length (Y.map (Value.int .i64)), own 22 1 (.slice ac rs.length cc) rs.length ((rs.map orV)), bundle (rs.map (orC 3)), own 3 1 (.slice na (((nmI X 2 q)).length) nc) (((nmI X 2 q)).length) (((nmI X 2 q)).map (Value.int .i64)), pt b15 #[.int .i64 2, .int .i64 ((n : Int)), .int .i64 0, .slice none 0 0, .slice none 0 0, .slice ac rs.length cc] 25, own 69 4 (.slice (some ⟨g8, 0, none⟩) X.length c6) X.length (tokv X), pt b3 cz0 25, pt b1 cz0 25] _ := hM
             refine S.append (k := 2) (k2 := 0) hA hM rfl rfl Tryd.underlying23 info22 rfl rfl rfl rfl rfl rfl rfl rfl rfl (by first | (rw [nmI_len]; first | (unfold maxLen; omega) | (show (q + 1) * 8 ≤ 140737488355328; omega)) | (rw [itI_len]; first | (unfold maxLen; omega) | (show (k + 1) * 8 ≤ 140737488355328; omega)) | (rw [hlr]; first | (unfold maxLen; omega) | (show (r + 1) * 24 ≤ 140737488355328; omega))) (by first | (rw [nmI_len]; first | (unfold maxLen; omega) | (show (q + 1) * 8 ≤ 140737488355328; omega)) | (rw [itI_len]; first | (unfold maxLen; omega) | (show (k + 1) * 8 ≤ 140737488355328; omega)) | (rw [hlr]; first | (unfold maxLen; omega) | (show (r + 1) * 24 ≤ 140737488355328; omega))) rfl ?_; clear hA hM a; intro a35 c36 w31 hM a hA
             replace hM : Mem _ _ [pt b33 #[.slice ((some ⟨b30, 0, none⟩)) Y.length n] 22, own 3 1 (.slice ((some ⟨b30, 0, none⟩)) Y.length n) Y.length (Y.map (Value.int .i64)), own 22 1 (.slice a35 (rs.length + 1) c36) (rs.length + 1) (((rs.map orV) ++ [.slice ((some ⟨b30, 0, none⟩)) Y.length n])), bundle (rs.map (orC 3)), own 3 1 (.slice na (((nmI X 2 q)).length) nc) (((nmI X 2 q)).length) (((nmI X 2 q)).map (Value.int .i64)), pt b15 #[.int .i64 2, .int .i64 ((n : Int)), .int .i64 0, .slice none 0 0, .slice none 0 0, .slice ac rs.length cc] 25, own 69 4 (.slice (some ⟨g8, 0, none⟩) X.length c6) X.length (tokv X), pt b3 cz0 25, pt b1 cz0 25] _ := hM
             replace hM := hM.drop 0
             replace hM : Mem _ _ [own 3 1 (.slice ((some ⟨b30, 0, none⟩)) Y.length n) Y.length (Y.map (Value.int .i64)), own 22 1 (.slice a35 (rs.length + 1) c36) (rs.length + 1) (((rs.map orV) ++ [.slice ((some ⟨b30, 0, none⟩)) Y.length n])), bundle (rs.map (orC 3)), own 3 1 (.slice na (((nmI X 2 q)).length) nc) (((nmI X 2 q)).length) (((nmI X 2 q)).map (Value.int .i64)), pt b15 #[.int .i64 2, .int .i64 ((n : Int)), .int .i64 0, .slice none 0 0, .slice none 0 0, .slice ac rs.length cc] 25, own 69 4 (.slice (some ⟨g8, 0, none⟩) X.length c6) X.length (tokv X), pt b3 cz0 25, pt b1 cz0 25] _ := hM
             refine S.val hA (R.fieldAddr (q := 5) fi25_5 rfl rfl rfl) rfl ?_; clear hA a; intro a hA
             refine S.store (k := 4) hA hM sz23 rfl rfl rfl rfl rfl ?_; clear hM
             intro w32 hM
             replace hM : Mem _ _ [own 3 1 (.slice ((some ⟨b30, 0, none⟩)) Y.length n) Y.length (Y.map (Value.int .i64)), own 22 1 (.slice a35 (rs.length + 1) c36) (rs.length + 1) (((rs.map orV) ++ [.slice ((some ⟨b30, 0, none⟩)) Y.length n])), bundle (rs.map (orC 3)), own 3 1 (.slice na (((nmI X 2 q)).length) nc) (((nmI X 2 q)).length) (((nmI X 2 q)).map (Value.int .i64)), pt b15 #[.int .i64 2, .int .i64 ((n : Int)), .int .i64 0, .slice none 0 0, .slice none 0 0, .slice a35 (rs.length + 1) c36] 25, own 69 4 (.slice (some ⟨g8, 0, none⟩) X.length c6) X.length (tokv X), pt b3 cz0 25, pt b1 cz0 25] _ := hM
             refine S.done ?_
             replace hA : St 303 [(2, _), (9, _), (10, _), (12, _), (14, _), (19, _)] a := hA.sub ((.cons rfl (.cons rfl (.cons rfl (.cons rfl (.cons rfl (.cons rfl .nil)))))))
             refine Ends.inBlock (Ends.region ?_)
             refine S.val hA (R.move rfl) rfl ?_; clear hA a; intro a hA
             refine S.val hA (R.addI rfl rfl (r := ((r : Int)) + 1) rfl (by first | omega | (rw [nmI_len]; omega) | (simp only [nmI_len]; omega))) rfl ?_; clear hA a; intro a hA
             refine S.val hA (R.assign rfl) rfl ?_; clear hA a; intro a hA
             refine S.done ?_
             replace hM := hM.front (k := 2) rfl
             replace hM := hM.front (k := 1) rfl
             replace hM := Mem.orCS (rs := rs) hM
             rw [show (Value.slice ((some ⟨b30, 0, none⟩)) Y.length n) = orV (⟨Y, (some ⟨b30, 0, none⟩), n⟩ : OwR) from rfl, orV_snoc', len_snoc' rs (⟨Y, (some ⟨b30, 0, none⟩), n⟩ : OwR)] at hM
             replace hM := hM.front (k := 6) rfl
             replace hM := hM.front (k := 6) rfl
             replace hM := hM.front (k := 6) rfl
             replace hM := hM.front (k := 6) rfl
             replace hM := hM.front (k := 6) rfl
             replace hM := hM.front (k := 5) rfl
             replace hM := hM.front (k := 6) rfl
             have hcn8 : c_ = n := by omega
             rw [hcn8] at hYc
             exact hNext2 ((r + 1, rs ++ [(⟨Y, (some ⟨b30, 0, none⟩), n⟩ : OwR)], a35, c36)) _ _ ((by show n - (r + 1) < n - r; omega)) ⟨hA.sub ((.cons rfl (.cons rfl (.cons rfl (.cons rfl (.cons rfl (.cons rfl .nil))))))), hM, (by omega), (matK_snoc hYs (row_done hYc))⟩
           ·
            refine Ends.exit rfl ?_
            replace hA : St 303 [(2, _), (12, _)] a := hA.sub ((.cons rfl (.cons rfl .nil)))
            refine Ends.seq (Ends.region ?_)
            refine S.val hA (R.loadA sz25 rfl (hM.range (k := 3) rfl) rfl) rfl ?_; clear hA a; intro a hA
            refine S.storeA (k := 6) hA hM sz25 rfl rfl rfl rfl rfl rfl ?_; clear hM
            intro w33 hM
            replace hM : Mem _ _ [own 22 1 (.slice ac rs.length cc) rs.length ((rs.map orV)), bundle (rs.map (orC 3)), own 3 1 (.slice na (((nmI X 2 q)).length) nc) (((nmI X 2 q)).length) (((nmI X 2 q)).map (Value.int .i64)), pt b15 #[.int .i64 2, .int .i64 ((n : Int)), .int .i64 0, .slice none 0 0, .slice none 0 0, .slice ac rs.length cc] 25, own 69 4 (.slice (some ⟨g8, 0, none⟩) X.length c6) X.length (tokv X), pt b3 cz0 25, pt b1 #[.int .i64 2, .int .i64 ((n : Int)), .int .i64 0, .slice none 0 0, .slice none 0 0, .slice ac rs.length cc] 25] _ := hM
            refine S.val hA (R.assign rfl) rfl ?_; clear hA a; intro a hA
            refine S.val hA (R.assign rfl) rfl ?_; clear hA a; intro a hA
            refine S.done ?_
            refine Ends.retC3 (k := 6) Tryd.func29 Tryd.results29 hA hM rfl rfl rfl rfl sz25 rfl ?_
            have hrn9 : r = n := by omega
            subst hrn9
            have g5 := hM.rowsV_ (k := 0) rfl (k2 := 1) rfl
            rw [prs_ok' hse hs0 hpbE (pb_as hw0 hcn hYs)]
            exact ⟨none, 0, none, 0, ac, cc, by simp only [List.length_map, List.length_nil], ⟨IntSl.nil _, IntSl.nil _, g5⟩, Mem.trans0 hbs hM.nilL⟩
   ·
    refine Ends.region ?_
    refine S.val hA (R.move rfl) rfl ?_; clear hA a; intro a hA
    refine S.val hA (R.indexAddr (q := 0 * 4) sl65 rfl rfl (by first | omega | (rw [nmI_len]; omega) | (simp only [nmI_len]; omega)) (by first | omega | (rw [nmI_len]; omega) | (simp only [nmI_len]; omega))) rfl ?_; clear hA a; intro a hA
    refine S.val hA (R.fieldAddr (q := 0 * 4 + 0) fi69_0 rfl rfl rfl) rfl ?_; clear hA a; intro a hA
    refine S.val hA (R.load sz3 rfl (hM.tokRow (k := 0) rfl (i := 0) (by omega) 0 _ rfl)) rfl ?_; clear hA a; intro a hA
    refine S.val hA (R.eql rfl rfl) rfl ?_; clear hA a; intro a hA
    refine S.val hA (R.move rfl) rfl ?_; clear hA a; intro a hA
    refine hA.split (d := 53) rfl ?_ ?_
    ·
     clear hA; intro hg37 hA
     refine S.no (dj := 53) hA (by kernel_rfl) rfl rfl rfl ?_; clear hA a; intro a hA
     refine S.no (dj := 53) hA (by kernel_rfl) rfl rfl rfl ?_; clear hA a; intro a hA
     refine S.no (dj := 53) hA (by kernel_rfl) rfl rfl rfl ?_; clear hA a; intro a hA
     refine S.noU (dj := 56) hA (by kernel_rfl) rfl rfl ?_; clear hA a; intro a hA
     refine S.noU (dj := 56) hA (by kernel_rfl) rfl rfl ?_; clear hA a; intro a hA
     refine S.no (dj := 53) hA (by kernel_rfl) rfl rfl rfl ?_; clear hA a; intro a hA
     refine S.no (dj := 53) hA (by kernel_rfl) rfl rfl rfl ?_; clear hA a; intro a hA
     refine S.noU (dj := 60) hA (by kernel_rfl) rfl rfl ?_; clear hA a; intro a hA
     refine S.noU (dj := 60) hA (by kernel_rfl) rfl rfl ?_; clear hA a; intro a hA
     refine S.no (dj := 53) hA (by kernel_rfl) rfl rfl rfl ?_; clear hA a; intro a hA
     refine S.val hA (R.pickT rfl rfl) rfl ?_; clear hA a; intro a hA
     refine S.done ?_
     replace hA : St 303 [(2, _), (5, _), (6, _), (9, _), (64, _)] a := hA.sub ((.cons rfl (.cons rfl (.cons rfl (.cons rfl (.cons rfl .nil))))))
     exact hJ _ _ ⟨hA.sub (.cons rfl (.cons rfl (.cons rfl (.cons rfl (.cons (by first | rfl | exact congrArg (fun b => some (Value.bool b)) (by first | exact decide_eq_decide.2 (by omega) | exact or_bool (by omega) | exact and_bool (by omega) | (simp; done) | (simp [hg37]; done) | (have h80 := hg37; (try simp at h80); simp [h80]; done) | exact (decide_eq_false (fun h9 => hg37 h9.1)).symm)) .nil))))), hM⟩
    ·
     clear hA; intro hg37 hA
     refine S.valg (dj := 53) hA (by kernel_rfl) rfl (R.move rfl) rfl ?_; clear hA a; intro a hA
     refine S.valg (dj := 53) hA (by kernel_rfl) rfl (R.neqStr rfl rfl) rfl ?_; clear hA a; intro a hA
     refine S.valg (dj := 53) hA (by kernel_rfl) rfl (R.move rfl) rfl ?_; clear hA a; intro a hA
     refine hA.split (d := 56) rfl ?_ ?_
     ·
      clear hA; intro hg38 hA
      refine S.valg (dj := 56) hA (by kernel_rfl) rfl (R.move rfl) rfl ?_; clear hA a; intro a hA
      refine S.valg (dj := 56) hA (by kernel_rfl) rfl (R.neqStr rfl rfl) rfl ?_; clear hA a; intro a hA
      refine S.valg (dj := 53) hA (by kernel_rfl) rfl (R.pickT rfl rfl) rfl ?_; clear hA a; intro a hA
      refine S.valg (dj := 53) hA (by kernel_rfl) rfl (R.move rfl) rfl ?_; clear hA a; intro a hA
      refine hA.split (d := 60) rfl ?_ ?_
      ·
       clear hA; intro hg39 hA
       refine S.valg (dj := 60) hA (by kernel_rfl) rfl (R.move rfl) rfl ?_; clear hA a; intro a hA
       refine S.valg (dj := 60) hA (by kernel_rfl) rfl (R.neqStr rfl rfl) rfl ?_; clear hA a; intro a hA
       refine S.valg (dj := 53) hA (by kernel_rfl) rfl (R.pickT rfl rfl) rfl ?_; clear hA a; intro a hA
       refine S.val hA (R.pickF rfl rfl) rfl ?_; clear hA a; intro a hA
       refine S.done ?_
       replace hA : St 303 [(2, _), (5, _), (6, _), (9, _), (64, _)] a := hA.sub ((.cons rfl (.cons rfl (.cons rfl (.cons rfl (.cons rfl .nil))))))
       exact hJ _ _ ⟨hA.sub (.cons rfl (.cons rfl (.cons rfl (.cons rfl (.cons (by first | rfl | exact congrArg (fun b => some (Value.bool b)) (by first | exact decide_eq_decide.2 (by omega) | exact or_bool (by omega) | exact and_bool (by omega) | (simp; done) | (simp [hg37, hg38, hg39]; done) | (have h80 := hg37; (try simp at h80); have h81 := hg38; (try simp at h81); have h82 := hg39; (try simp at h82); simp [h80, h81, h82]; done) | exact (decide_eq_false (fun h9 => hg37 h9.1)).symm | exact (decide_eq_false (fun h9 => hg38 h9.1)).symm | exact (decide_eq_false (fun h9 => hg39 h9.1)).symm)) .nil))))), hM⟩
      ·
       clear hA; intro hg39 hA
       refine S.no (dj := 60) hA (by kernel_rfl) rfl rfl rfl ?_; clear hA a; intro a hA
       refine S.no (dj := 60) hA (by kernel_rfl) rfl rfl rfl ?_; clear hA a; intro a hA
       refine S.valg (dj := 53) hA (by kernel_rfl) rfl (R.pickF rfl rfl) rfl ?_; clear hA a; intro a hA
       refine S.val hA (R.pickF rfl rfl) rfl ?_; clear hA a; intro a hA
       refine S.done ?_
       replace hA : St 303 [(2, _), (5, _), (6, _), (9, _), (64, _)] a := hA.sub ((.cons rfl (.cons rfl (.cons rfl (.cons rfl (.cons rfl .nil))))))
       exact hJ _ _ ⟨hA.sub (.cons rfl (.cons rfl (.cons rfl (.cons rfl (.cons (by first | rfl | exact congrArg (fun b => some (Value.bool b)) (by first | exact decide_eq_decide.2 (by omega) | exact or_bool (by omega) | exact and_bool (by omega) | (simp; done) | (simp [hg37, hg38, hg39]; done) | (have h80 := hg37; (try simp at h80); have h81 := hg38; (try simp at h81); have h82 := hg39; (try simp at h82); simp [h80, h81, h82]; done) | exact (decide_eq_false (fun h9 => hg37 h9.1)).symm | exact (decide_eq_false (fun h9 => hg38 h9.1)).symm | exact (decide_eq_false (fun h9 => hg39 h9.1)).symm)) .nil))))), hM⟩
     ·
      clear hA; intro hg38 hA
      refine S.no (dj := 56) hA (by kernel_rfl) rfl rfl rfl ?_; clear hA a; intro a hA
      refine S.no (dj := 56) hA (by kernel_rfl) rfl rfl rfl ?_; clear hA a; intro a hA
      refine S.valg (dj := 53) hA (by kernel_rfl) rfl (R.pickF rfl rfl) rfl ?_; clear hA a; intro a hA
      refine S.valg (dj := 53) hA (by kernel_rfl) rfl (R.move rfl) rfl ?_; clear hA a; intro a hA
      refine S.no (dj := 60) hA (by kernel_rfl) rfl rfl rfl ?_; clear hA a; intro a hA
      refine S.no (dj := 60) hA (by kernel_rfl) rfl rfl rfl ?_; clear hA a; intro a hA
      refine S.valg (dj := 53) hA (by kernel_rfl) rfl (R.pickF rfl rfl) rfl ?_; clear hA a; intro a hA
      refine S.val hA (R.pickF rfl rfl) rfl ?_; clear hA a; intro a hA
      refine S.done ?_
      replace hA : St 303 [(2, _), (5, _), (6, _), (9, _), (64, _)] a := hA.sub ((.cons rfl (.cons rfl (.cons rfl (.cons rfl (.cons rfl .nil))))))
      exact hJ _ _ ⟨hA.sub (.cons rfl (.cons rfl (.cons rfl (.cons rfl (.cons (by first | rfl | exact congrArg (fun b => some (Value.bool b)) (by first | exact decide_eq_decide.2 (by omega) | exact or_bool (by omega) | exact and_bool (by omega) | (simp; done) | (simp [hg37, hg38]; done) | (have h80 := hg37; (try simp at h80); have h81 := hg38; (try simp at h81); simp [h80, h81]; done) | exact (decide_eq_false (fun h9 => hg37 h9.1)).symm | exact (decide_eq_false (fun h9 => hg38 h9.1)).symm)) .nil))))), hM⟩
end Go.Proofs.YtakfcekfmdjklaaDoor
