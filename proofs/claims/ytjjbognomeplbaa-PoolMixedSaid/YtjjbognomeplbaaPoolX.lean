/-
  The law PoolMixed: however the Steps of four workers come.
-/
import Derived.Test.YtjjbognomeplbaaPoolB
namespace Go.Proofs.Ytjjbognomeplbaa
open Go.RowKit

theorem Mem.addEmp0 {w0 w : World} {F : Nat → Prop} {L : List Ck} (h : Mem w0 F L w) : Mem w0 F (emp :: L) w := h.consNo trivial (fun _ hb => hb)
theorem mok_none {ms ms2 : List MS} {k : Nat} {x : MS} (h : ErEq ms2 (ms.set k x)) (hm : MOK ms) : MOK (ms2.set k none) := by
  intro j y hj
  rcases set_cases hj with ⟨_, e⟩ | ⟨hne, e⟩
  · cases e
  · obtain ⟨z, hz, e2⟩ := er_at h e
    rcases set_cases hz with ⟨e3, _⟩ | ⟨_, hz2⟩
    · exact absurd e3 hne
    · have h1 := hm j z hz2
      obtain ⟨x1, x2, x3, x4, x5, x6, x7⟩ := y
      obtain ⟨y1, y2, y3, y4, y5, y6, y7⟩ := z
      simp only [er, MAct.mk.injEq] at e2
      obtain ⟨rfl, rfl, rfl, rfl, rfl, -, rfl⟩ := e2
      exact h1
set_option maxRecDepth 100000 in
set_option maxHeartbeats 400000 in
theorem poolMixed_w (f_ : Int) (ad : Option Addr) (nr cap : Nat) (rws : List Int) (w : World) (hrow : RowSl w (.slice ad nr cap) 3 nr rws) :
    Calls Try.prog 12 #[.int .i64 f_, .slice ad nr cap] w fun e w' => e = .returned (.bool true) ∧ Below w.heap.size w w' := by
  have hM := Mem.start w
  refine Calls.of_ends (vs := [.int .i64 f_, .slice ad nr cap]) Try.func12 rfl Try.ntmps12 rfl ?_
  intro a hA
  replace hA : St 321 [(0, _), (1, _)] a := hA
  refine Ends.seq ?_
  refine Ends.region ?_
  refine S.val hA (R.assign rfl) rfl ?_; clear hA a; intro a hA
  refine S.done ?_
  replace hA : St 321 [(0, _), (1, _)] a := hA.sub ((.cons rfl (.cons rfl .nil)))
  refine Ends.seq ?_
  refine Ends.region ?_
  refine S.val hA (R.move rfl) rfl ?_; clear hA a; intro a hA
  refine S.val hA (R.conv Try.underlying22 Try.underlying3 rfl) rfl ?_; clear hA a; intro a hA
  refine S.val hA (R.remI rfl rfl rfl ⟨u64_nn _, by decide⟩) rfl ?_; clear hA a; intro a hA
  obtain ⟨n1, hn2, en3⟩ := umod_ex f_ 12 (by decide)
  refine S.val hA (R.to (v := .int .i64 (n1 : Int)) (R.conv Try.underlying3 Try.underlying22 rfl) (congrArg (Value.int .i64) en3)) rfl ?_; clear hA a; intro a hA
  obtain ⟨n, hnN⟩ : ∃ n : Int, n = 1 + (n1 : Int) := ⟨_, rfl⟩
  refine S.val hA (R.addI rfl rfl (r := n) (by first | omega | (simp; done)) (by first | omega | (simp; done))) rfl ?_; clear hA a; intro a hA
  refine S.val hA (R.assign rfl) rfl ?_; clear hA a; intro a hA
  refine S.done ?_
  replace hA : St 321 [(0, _), (1, _)] a := hA.sub ((.cons rfl (.cons rfl .nil)))
  refine Ends.seq ?_
  refine Ends.region ?_
  refine S.val hA (R.move rfl) rfl ?_; clear hA a; intro a hA
  refine S.call hA (R.callF Try.func42 rfl rfl rfl) rfl (pfresh_any n 4 (by first | omega | decide | (simp; done) | (simp; omega)) (by first | omega | decide | (simp; done) | (simp; omega)) _) ?_; clear hA a
  rintro e w1 ⟨q4, m5, c6, nb7, ob8, op9, rfl, hm5c6, hn⟩
  replace hM : Mem _ _ [pt q4 #[.pointer (some ⟨m5, 0, none⟩), .int .i64 3, .slice (some ⟨nb7, 0, none⟩) n.toNat n.toNat, .slice (some ⟨ob8, 0, none⟩) 4 4] 128, pt nb7 ((madeCells #[.slice none 0 0, .int .i64 0] (n.toNat * 2))) 77, pt ob8 #[.slice none 0 0, .slice none 0 0, .slice none 0 0, .slice none 0 0] 43, memO m5 c6 ((linkL (List.replicate (3 + (n + 1)).toNat 0) 3 n n.toNat)) (0 + 1 + n) op9] _ := hM.call hn; clear hn
  refine ⟨.tuple #[.pointer (some ⟨q4, 0, none⟩), .pointer (some ⟨m5, 0, none⟩), .bool true], rfl, fun a hA => ?_⟩
  refine S.val hA (R.move rfl) rfl ?_; clear hA a; intro a hA
  refine S.val hA (R.extract (v := .pointer (some ⟨q4, 0, none⟩)) rfl rfl) rfl ?_; clear hA a; intro a hA
  refine S.val hA (R.extract (v := .pointer (some ⟨m5, 0, none⟩)) rfl rfl) rfl ?_; clear hA a; intro a hA
  refine S.val hA (R.extract (v := .bool true) rfl rfl) rfl ?_; clear hA a; intro a hA
  refine S.val hA (R.assign rfl) rfl ?_; clear hA a; intro a hA
  refine S.val hA (R.assign rfl) rfl ?_; clear hA a; intro a hA
  refine S.val hA (R.assign rfl) rfl ?_; clear hA a; intro a hA
  refine S.done ?_
  replace hA : St 321 [(0, _), (1, _), (5, _), (6, _), (7, _)] a := hA.sub ((.cons rfl (.cons rfl (.cons rfl (.cons rfl (.cons rfl .nil))))))
  refine Ends.seq ?_
  refine Ends.seq ?_
  refine Ends.region ?_
  refine S.call hA (R.callF Try.func43 rfl rfl rfl) rfl (ppools_any _) ?_; clear hA a
  rintro e w2 ⟨rfl, hb⟩
  replace hM := hM.callB hb; clear hb
  refine ⟨.bool true, rfl, fun a hA => ?_⟩
  refine S.val hA (R.not rfl) rfl ?_; clear hA a; intro a hA
  refine S.val hA (R.move rfl) rfl ?_; clear hA a; intro a hA
  refine S.valg (dj := 37) hA (by kernel_rfl) rfl (R.move rfl) rfl ?_; clear hA a; intro a hA
  refine S.valg (dj := 37) hA (by kernel_rfl) rfl (R.not rfl) rfl ?_; clear hA a; intro a hA
  refine S.val hA (R.pickF rfl rfl) rfl ?_; clear hA a; intro a hA
  refine S.done ?_
  replace hA : St 321 [(0, _), (1, _), (5, _), (6, _), (40, _)] a := hA.sub ((.cons rfl (.cons rfl (.cons rfl (.cons rfl (.cons rfl .nil))))))
  refine Ends.condF hA rfl ?_
  refine Ends.skip ?_
  refine Ends.seq ?_
  refine Ends.region ?_
  refine S.val hA (R.move rfl) rfl ?_; clear hA a; intro a hA
  refine S.call hA (R.callF Try.func58 rfl rfl rfl) rfl (rnew18 n (by omega) _) ?_; clear hA a
  rintro e w3 ⟨wb10, a11, c12, rfl, hn⟩
  replace hM : Mem _ _ [pt wb10 #[.slice a11 ((List.replicate n.toNat (-1) : List Int).length) c12] 93, own 3 1 (.slice a11 (((List.replicate n.toNat (-1) : List Int)).length) c12) (((List.replicate n.toNat (-1) : List Int)).length) (((List.replicate n.toNat (-1) : List Int)).map (Value.int .i64)), pt q4 #[.pointer (some ⟨m5, 0, none⟩), .int .i64 3, .slice (some ⟨nb7, 0, none⟩) n.toNat n.toNat, .slice (some ⟨ob8, 0, none⟩) 4 4] 128, pt nb7 ((madeCells #[.slice none 0 0, .int .i64 0] (n.toNat * 2))) 77, pt ob8 #[.slice none 0 0, .slice none 0 0, .slice none 0 0, .slice none 0 0] 43, memO m5 c6 ((linkL (List.replicate (3 + (n + 1)).toNat 0) 3 n n.toNat)) (0 + 1 + n) op9] _ := hM.call hn; clear hn
  refine ⟨.pointer (some ⟨wb10, 0, none⟩), rfl, fun a hA => ?_⟩
  refine S.val hA (R.assign rfl) rfl ?_; clear hA a; intro a hA
  refine S.done ?_
  replace hA : St 321 [(0, _), (1, _), (5, _), (6, _), (8, _)] a := hA.sub ((.cons rfl (.cons rfl (.cons rfl (.cons rfl (.cons rfl .nil))))))
  refine Ends.seq ?_
  obtain ⟨gH, hgH⟩ := hM.ownAt (k := 1) rfl (by rw [List.length_replicate]; omega)
  subst hgH
  replace hM : Mem _ _ [pt wb10 #[.slice (some ⟨gH, 0, none⟩) ((List.replicate n.toNat (-1) : List Int).length) c12] 93, own 3 1 (.slice (some ⟨gH, 0, none⟩) (((List.replicate n.toNat (-1) : List Int)).length) c12) (((List.replicate n.toNat (-1) : List Int)).length) (((List.replicate n.toNat (-1) : List Int)).map (Value.int .i64)), pt q4 #[.pointer (some ⟨m5, 0, none⟩), .int .i64 3, .slice (some ⟨nb7, 0, none⟩) n.toNat n.toNat, .slice (some ⟨ob8, 0, none⟩) 4 4] 128, pt nb7 ((madeCells #[.slice none 0 0, .int .i64 0] (n.toNat * 2))) 77, pt ob8 #[.slice none 0 0, .slice none 0 0, .slice none 0 0, .slice none 0 0] 43, memO m5 c6 ((linkL (List.replicate (3 + (n + 1)).toNat 0) 3 n n.toNat)) (0 + 1 + n) op9] _ := hM
  refine Ends.region ?_
  refine S.alloc hA hM info98 rfl rfl ?_; clear hA hM a; intro b13 w4 hb14 hM a hA
  replace hM : Mem _ _ [pt b13 #[.pointer none, .pointer none, .pointer none, .pointer none] 98, pt wb10 #[.slice (some ⟨gH, 0, none⟩) ((List.replicate n.toNat (-1) : List Int).length) c12] 93, own 3 1 (.slice (some ⟨gH, 0, none⟩) (((List.replicate n.toNat (-1) : List Int)).length) c12) (((List.replicate n.toNat (-1) : List Int)).length) (((List.replicate n.toNat (-1) : List Int)).map (Value.int .i64)), pt q4 #[.pointer (some ⟨m5, 0, none⟩), .int .i64 3, .slice (some ⟨nb7, 0, none⟩) n.toNat n.toNat, .slice (some ⟨ob8, 0, none⟩) 4 4] 128, pt nb7 ((madeCells #[.slice none 0 0, .int .i64 0] (n.toNat * 2))) 77, pt ob8 #[.slice none 0 0, .slice none 0 0, .slice none 0 0, .slice none 0 0] 43, memO m5 c6 ((linkL (List.replicate (3 + (n + 1)).toNat 0) 3 n n.toNat)) (0 + 1 + n) op9] _ := hM
  refine S.done ?_
  replace hA : St 321 [(0, _), (1, _), (5, _), (6, _), (8, _), (9, _)] a := hA.sub ((.cons rfl (.cons rfl (.cons rfl (.cons rfl (.cons rfl (.cons rfl .nil)))))))
  refine Ends.seq ?_
  refine Ends.region ?_
  refine S.alloc hA hM info65 rfl rfl ?_; clear hA hM a; intro b15 w5 hb16 hM a hA
  replace hM : Mem _ _ [pt b15 #[.slice none 0 0, .slice none 0 0, .slice none 0 0, .slice none 0 0] 65, pt b13 #[.pointer none, .pointer none, .pointer none, .pointer none] 98, pt wb10 #[.slice (some ⟨gH, 0, none⟩) ((List.replicate n.toNat (-1) : List Int).length) c12] 93, own 3 1 (.slice (some ⟨gH, 0, none⟩) (((List.replicate n.toNat (-1) : List Int)).length) c12) (((List.replicate n.toNat (-1) : List Int)).length) (((List.replicate n.toNat (-1) : List Int)).map (Value.int .i64)), pt q4 #[.pointer (some ⟨m5, 0, none⟩), .int .i64 3, .slice (some ⟨nb7, 0, none⟩) n.toNat n.toNat, .slice (some ⟨ob8, 0, none⟩) 4 4] 128, pt nb7 ((madeCells #[.slice none 0 0, .int .i64 0] (n.toNat * 2))) 77, pt ob8 #[.slice none 0 0, .slice none 0 0, .slice none 0 0, .slice none 0 0] 43, memO m5 c6 ((linkL (List.replicate (3 + (n + 1)).toNat 0) 3 n n.toNat)) (0 + 1 + n) op9] _ := hM
  refine S.done ?_
  replace hA : St 321 [(0, _), (1, _), (5, _), (6, _), (8, _), (9, _), (10, _)] a := hA.sub ((.cons rfl (.cons rfl (.cons rfl (.cons rfl (.cons rfl (.cons rfl (.cons rfl .nil))))))))
  refine Ends.seq ?_
  refine Ends.seq ?_
  refine Ends.region ?_
  refine S.val hA (R.assign rfl) rfl ?_; clear hA a; intro a hA
  refine S.done ?_
  replace hA : St 321 [(0, _), (1, _), (5, _), (6, _), (8, _), (9, _), (10, _), (11, _)] a := hA.sub ((.cons rfl (.cons rfl (.cons rfl (.cons rfl (.cons rfl (.cons rfl (.cons rfl (.cons rfl .nil)))))))))
  refine Ends.block ?_
  replace hM := hM.nilOw.nilOw.empsB 4
  replace hM := hM.front (k := 2) rfl
  replace hM := hM.front (k := 3) rfl
  replace hM := hM.front (k := 2) rfl
  replace hM := hM.front (k := 4) rfl
  replace hM := hM.front (k := 6) rfl
  replace hM := hM.front (k := 6) rfl
  replace hM := hM.front (k := 10) rfl
  replace hM := hM.front (k := 7) rfl
  replace hM := hM.front (k := 10) rfl
  replace hM := hM.front (k := 9) rfl
  replace hM : Mem _ _ [pt q4 #[.pointer (some ⟨m5, 0, none⟩), .int .i64 3, .slice (some ⟨nb7, 0, none⟩) n.toNat n.toNat, .slice (some ⟨ob8, 0, none⟩) 4 4] 128, pt ob8 #[.slice none 0 0, .slice none 0 0, .slice none 0 0, .slice none 0 0] 43, bundle ((List.replicate 4 (⟨[], none, 0⟩ : OwS)).map owC), memO m5 c6 ((linkL (List.replicate (3 + (n + 1)).toNat 0) 3 n n.toNat)) (0 + 1 + n) op9, pt wb10 #[.slice (some ⟨gH, 0, none⟩) ((List.replicate n.toNat (-1) : List Int).length) c12] 93, own 3 1 (.slice (some ⟨gH, 0, none⟩) (((List.replicate n.toNat (-1) : List Int)).length) c12) (((List.replicate n.toNat (-1) : List Int)).length) (((List.replicate n.toNat (-1) : List Int)).map (Value.int .i64)), pt b13 #[.pointer none, .pointer none, .pointer none, .pointer none] 98, bundle (List.replicate 4 emp), pt b15 #[.slice none 0 0, .slice none 0 0, .slice none 0 0, .slice none 0 0] 65, bundle ((List.replicate 4 (⟨[], none, 0⟩ : OwS)).map owC), pt nb7 ((madeCells #[.slice none 0 0, .int .i64 0] (n.toNat * 2))) 77] _ := hM
  replace hM : Mem _ _ [pt q4 #[.pointer (some ⟨m5, 0, none⟩), .int .i64 3, .slice (some ⟨nb7, 0, none⟩) n.toNat n.toNat, .slice (some ⟨ob8, 0, none⟩) 4 4] 128, pt ob8 #[.slice none 0 0, .slice none 0 0, .slice none 0 0, .slice none 0 0] 43, bundle ((List.replicate 4 (⟨[], none, 0⟩ : OwS)).map owC), memO m5 c6 ((linkL (List.replicate (3 + (n + 1)).toNat 0) 3 n n.toNat)) (0 + 1 + n) op9, pt wb10 #[.slice (some ⟨gH, 0, none⟩) ((List.replicate n.toNat (-1) : List Int).length) c12] 93, own 3 1 (.slice (some ⟨gH, 0, none⟩) (((List.replicate n.toNat (-1) : List Int)).length) c12) (((List.replicate n.toNat (-1) : List Int)).length) (((List.replicate n.toNat (-1) : List Int)).map (Value.int .i64)), pt b13 #[.pointer none, .pointer none, .pointer none, .pointer none] 98, bundle (List.replicate 4 emp), pt b15 #[.slice none 0 0, .slice none 0 0, .slice none 0 0, .slice none 0 0] 65, bundle ((List.replicate 4 (⟨[], none, 0⟩ : OwS)).map owC)] _ := hM.firstN 10
  have hgi0 := gi_new (n := n) (N := (3 + (n + 1)).toNat) (ws := 4) (by omega) rfl
  refine Ends.loop (σ := Nat × Int × List Int × List Int × List Int × Int × CellOp × List OwS × List MS × List OwS) (fun (i, V, l, xs, H, s, op, gs, ms, hs) (a : Act) (wv : World) => St 321 [(0, .int .i64 n), (1, .slice ad nr cap), (5, .pointer (some ⟨q4, 0, none⟩)), (6, .pointer (some ⟨m5, 0, none⟩)), (8, .pointer (some ⟨wb10, 0, none⟩)), (9, .pointer (some ⟨b13, 0, none⟩)), (10, .pointer (some ⟨b15, 0, none⟩)), (11, .int .i64 ((i : Int)))] a ∧ Mem w nof [pt q4 #[.pointer (some ⟨m5, 0, none⟩), .int .i64 3, .slice (some ⟨nb7, 0, none⟩) n.toNat n.toNat, .slice (some ⟨ob8, 0, none⟩) 4 4] 128, pt ob8 ((vals (gs.map owV))) 43, bundle (gs.map owC), memO m5 c6 l s op, pt wb10 #[.slice (some ⟨gH, 0, none⟩) H.length c12] 93, own 3 1 (.slice (some ⟨gH, 0, none⟩) H.length c12) H.length (H.map (Value.int .i64)), pt b13 ((vals (ms.map maV))) 98, bundle (ms.map (maC q4)), pt b15 ((vals (hs.map owV))) 65, bundle (hs.map owC)] wv ∧ (i ≤ 300) ∧ (GI 3 n V l H xs (gs.map (·.Y)) (tsOf ms)) ∧ (gs.length = 4) ∧ (ms.length = 4) ∧ (hs.length = 4) ∧ (MOK ms) ∧ (HoldI n H (hs.map (·.Y)) (tsOf ms)) ∧ (0 ≤ s ∧ s ≤ 100 + (i : Int)) ∧ (V ≤ (i : Int))) (fun (i, V, l, xs, H, s, op, gs, ms, hs) => 300 - i) ((0, 0, (linkL (List.replicate (3 + (n + 1)).toNat 0) 3 n n.toNat), ((List.range' 0 n.toNat).map Int.ofNat), (List.replicate n.toNat (-1) : List Int), 0 + 1 + n, op9, (List.replicate 4 (⟨[], none, 0⟩ : OwS)), (List.replicate 4 (none : MS)), (List.replicate 4 (⟨[], none, 0⟩ : OwS)))) ⟨hA.sub ((.cons rfl (.cons rfl (.cons rfl (.cons rfl (.cons rfl (.cons rfl (.cons rfl (.cons rfl .nil))))))))), hM, (by omega), hgi0, rfl, rfl, rfl, (mok_new 4), (hold_new 4 _), (by omega), (by omega)⟩ ?_
  clear hA hM a
  rintro ⟨i, V, l, xs, H, s, op, gs, ms, hs⟩ a w6 ⟨hA, hM, hi300, hg, hgl, hml, hhl, hmok, hhold, hs0, hV⟩ hNext
  refine Ends.seq ?_
  refine Ends.seq ?_
  refine Ends.cut (fun (a : Act) (wv : World) => St 321 [(0, .int .i64 n), (1, .slice ad nr cap), (5, .pointer (some ⟨q4, 0, none⟩)), (6, .pointer (some ⟨m5, 0, none⟩)), (8, .pointer (some ⟨wb10, 0, none⟩)), (9, .pointer (some ⟨b13, 0, none⟩)), (10, .pointer (some ⟨b15, 0, none⟩)), (11, .int .i64 ((i : Int))), (50, .bool (decide ((((i : Int)) < ((nr : Int)) ∧ ((i : Int)) < 300))))] a ∧ Mem w nof [pt q4 #[.pointer (some ⟨m5, 0, none⟩), .int .i64 3, .slice (some ⟨nb7, 0, none⟩) n.toNat n.toNat, .slice (some ⟨ob8, 0, none⟩) 4 4] 128, pt ob8 ((vals (gs.map owV))) 43, bundle (gs.map owC), memO m5 c6 l s op, pt wb10 #[.slice (some ⟨gH, 0, none⟩) H.length c12] 93, own 3 1 (.slice (some ⟨gH, 0, none⟩) H.length c12) H.length (H.map (Value.int .i64)), pt b13 ((vals (ms.map maV))) 98, bundle (ms.map (maC q4)), pt b15 ((vals (hs.map owV))) 65, bundle (hs.map owC)] wv) ?_ (fun k2 hJ => ?_)
  · clear hA hM a; rintro a w7 ⟨hA, hM⟩
    refine Ends.ite hA rfl (fun hc17 => ?_) (fun hc17 => ?_)
    ·
      refine Ends.skip ?_
      refine Ends.seq ?_
      refine Ends.block ?_
      refine Ends.seq ?_
      obtain ⟨g, off, x0, x1, x2, hg_, hcell⟩ := hrow.three (i := i) (by omega)
      subst hg_
      refine Ends.region ?_
      refine S.val hA (R.move rfl) rfl ?_; clear hA a; intro a hA
      refine S.val hA (R.move rfl) rfl ?_; clear hA a; intro a hA
      refine S.val hA (R.indexAddr (q := off + i * 3) sl96 rfl rfl (by first | omega | (simp; done)) (by first | omega | (simp; done))) rfl ?_; clear hA a; intro a hA
      refine S.val hA (R.loadA sz100 rfl (fun j v hj => hM.cell0 (hcell j v hj) (fun h => h)) rfl) rfl ?_; clear hA a; intro a hA
      refine S.alloc hA hM info100 rfl rfl ?_; clear hA hM a; intro b18 w8 hb19 hM a hA
      replace hM : Mem _ _ [pt b18 #[.int .i64 0, .int .i64 0, .int .i64 0] 100, pt q4 #[.pointer (some ⟨m5, 0, none⟩), .int .i64 3, .slice (some ⟨nb7, 0, none⟩) n.toNat n.toNat, .slice (some ⟨ob8, 0, none⟩) 4 4] 128, pt ob8 ((vals (gs.map owV))) 43, bundle (gs.map owC), memO m5 c6 l s op, pt wb10 #[.slice (some ⟨gH, 0, none⟩) H.length c12] 93, own 3 1 (.slice (some ⟨gH, 0, none⟩) H.length c12) H.length (H.map (Value.int .i64)), pt b13 ((vals (ms.map maV))) 98, bundle (ms.map (maC q4)), pt b15 ((vals (hs.map owV))) 65, bundle (hs.map owC)] _ := hM
      refine S.storeA (k := 0) hA hM sz100 rfl rfl rfl rfl rfl rfl ?_; clear hM
      intro w9 hM
      replace hM : Mem _ _ [pt b18 #[.int .i64 x0, .int .i64 x1, .int .i64 x2] 100, pt q4 #[.pointer (some ⟨m5, 0, none⟩), .int .i64 3, .slice (some ⟨nb7, 0, none⟩) n.toNat n.toNat, .slice (some ⟨ob8, 0, none⟩) 4 4] 128, pt ob8 ((vals (gs.map owV))) 43, bundle (gs.map owC), memO m5 c6 l s op, pt wb10 #[.slice (some ⟨gH, 0, none⟩) H.length c12] 93, own 3 1 (.slice (some ⟨gH, 0, none⟩) H.length c12) H.length (H.map (Value.int .i64)), pt b13 ((vals (ms.map maV))) 98, bundle (ms.map (maC q4)), pt b15 ((vals (hs.map owV))) 65, bundle (hs.map owC)] _ := hM
      refine S.done ?_
      replace hA : St 321 [(0, _), (1, _), (5, _), (6, _), (8, _), (9, _), (10, _), (11, _), (12, _)] a := hA.sub ((.cons rfl (.cons rfl (.cons rfl (.cons rfl (.cons rfl (.cons rfl (.cons rfl (.cons rfl (.cons rfl .nil))))))))))
      refine Ends.seq ?_
      refine Ends.region ?_
      refine S.val hA (R.fieldAddr (q := 0) fi100_0 rfl rfl rfl) rfl ?_; clear hA a; intro a hA
      refine S.val hA (R.load sz3 rfl (hM.cell (k := 0) rfl rfl)) rfl ?_; clear hA a; intro a hA
      refine S.val hA (R.conv Try.underlying22 Try.underlying3 rfl) rfl ?_; clear hA a; intro a hA
      refine S.val hA (R.remI rfl rfl rfl ⟨u64_nn _, by decide⟩) rfl ?_; clear hA a; intro a hA
      obtain ⟨n20, hn21, en22⟩ := umod_ex x0 4 (by decide)
      refine S.val hA (R.to (v := .int .i64 (n20 : Int)) (R.conv Try.underlying3 Try.underlying22 rfl) (congrArg (Value.int .i64) en22)) rfl ?_; clear hA a; intro a hA
      refine S.val hA (R.assign rfl) rfl ?_; clear hA a; intro a hA
      refine S.done ?_
      replace hA : St 321 [(0, _), (1, _), (5, _), (6, _), (8, _), (9, _), (10, _), (11, _), (12, _), (13, _)] a := hA.sub ((.cons rfl (.cons rfl (.cons rfl (.cons rfl (.cons rfl (.cons rfl (.cons rfl (.cons rfl (.cons rfl (.cons rfl .nil)))))))))))
      refine Ends.seq ?_
      refine Ends.seq ?_
      by_cases hs23 : ms[n20]? = some none
      ·
        replace hM := hM.front (k := 8) rfl
        replace hM : Mem _ _ [bundle (ms.map (maC q4)), pt b18 #[.int .i64 x0, .int .i64 x1, .int .i64 x2] 100, pt q4 #[.pointer (some ⟨m5, 0, none⟩), .int .i64 3, .slice (some ⟨nb7, 0, none⟩) n.toNat n.toNat, .slice (some ⟨ob8, 0, none⟩) 4 4] 128, pt ob8 ((vals (gs.map owV))) 43, bundle (gs.map owC), memO m5 c6 l s op, pt wb10 #[.slice (some ⟨gH, 0, none⟩) H.length c12] 93, own 3 1 (.slice (some ⟨gH, 0, none⟩) H.length c12) H.length (H.map (Value.int .i64)), pt b13 ((vals (ms.map maV))) 98, pt b15 ((vals (hs.map owV))) 65, bundle (hs.map owC)] _ := hM
        obtain ⟨yg, hyg⟩ := ows_some (gs := gs) (k := n20) (by omega)
        have hyl := hg.own yg.Y (List.mem_map.2 ⟨yg, List.mem_of_getElem? hyg, rfl⟩)
        have hlk := hg.look
        obtain ⟨⟨Yh, ah, ch⟩, hyh⟩ := ows_some (gs := hs) (k := n20) (by omega)
        have hYl := hold_len hhold (by omega) (k := n20) (Y := Yh) (by rw [List.getElem?_map, hyh]; rfl)
        have hmj := hs23
        replace hM : Mem _ _ [bundle ((ms.eraseIdx n20).map (maC q4)), pt b18 #[.int .i64 x0, .int .i64 x1, .int .i64 x2] 100, pt q4 #[.pointer (some ⟨m5, 0, none⟩), .int .i64 3, .slice (some ⟨nb7, 0, none⟩) n.toNat n.toNat, .slice (some ⟨ob8, 0, none⟩) 4 4] 128, pt ob8 ((vals (gs.map owV))) 43, bundle (gs.map owC), memO m5 c6 l s op, pt wb10 #[.slice (some ⟨gH, 0, none⟩) H.length c12] 93, own 3 1 (.slice (some ⟨gH, 0, none⟩) H.length c12) H.length (H.map (Value.int .i64)), pt b13 ((vals (ms.map maV))) 98, pt b15 ((vals (hs.map owV))) 65, bundle (hs.map owC)] _ := (hM.openB hmj).drop 0
        refine Ends.region ?_
        refine S.val hA (R.move rfl) rfl ?_; clear hA a; intro a hA
        refine S.val hA (R.indexAddrA (q := n20) ar98 rfl rfl (by first | omega | (simp; done)) (by first | omega | (simp; done))) rfl ?_; clear hA a; intro a hA
        refine S.val hA (R.load sz97 rfl (hM.cell (k := 8) rfl (vals_at _ _ _ (maV_at hmj)))) rfl ?_; clear hA a; intro a hA
        refine S.val hA (R.eqlNil Try.underlying97 rfl rfl) rfl ?_; clear hA a; intro a hA
        refine S.done ?_
        replace hA : St 321 [(0, _), (1, _), (5, _), (6, _), (8, _), (9, _), (10, _), (11, _), (12, _), (13, _), (65, _)] a := hA.sub ((.cons rfl (.cons rfl (.cons rfl (.cons rfl (.cons rfl (.cons rfl (.cons rfl (.cons rfl (.cons rfl (.cons rfl (.cons rfl .nil))))))))))))
        refine Ends.condT hA rfl ?_
        refine Ends.seq ?_
        refine Ends.seq ?_
        by_cases hs24 : x1 = 4
        ·
          by_cases hs25 : 0 < Yh.length
          ·
            refine Ends.region ?_
            refine S.val hA (R.fieldAddr (q := 1) fi100_1 rfl rfl rfl) rfl ?_; clear hA a; intro a hA
            refine S.val hA (R.load sz3 rfl (hM.cell (k := 1) rfl rfl)) rfl ?_; clear hA a; intro a hA
            refine S.val hA (R.tt (R.eql rfl rfl) (by first | omega | (simp; done))) rfl ?_; clear hA a; intro a hA
            refine S.val hA (R.move rfl) rfl ?_; clear hA a; intro a hA
            refine S.valg (dj := 69) hA (by kernel_rfl) rfl (R.move rfl) rfl ?_; clear hA a; intro a hA
            refine S.valg (dj := 69) hA (by kernel_rfl) rfl (R.indexAddrA (q := n20) ar65 rfl rfl (by first | omega | (simp; done)) (by first | omega | (simp; done))) rfl ?_; clear hA a; intro a hA
            refine S.valg (dj := 69) hA (by kernel_rfl) rfl (R.load sz43 rfl (hM.cell (k := 9) rfl (vals_at _ _ _ (owV_at3 hyh)))) rfl ?_; clear hA a; intro a hA
            refine S.valg (dj := 69) hA (by kernel_rfl) rfl (R.lenS Try.underlying43 rfl rfl) rfl ?_; clear hA a; intro a hA
            refine S.valg (dj := 69) hA (by kernel_rfl) rfl (R.tt (R.gtr rfl rfl) (by first | omega | (simp; done))) rfl ?_; clear hA a; intro a hA
            refine S.val hA (R.pickT rfl rfl) rfl ?_; clear hA a; intro a hA
            refine S.done ?_
            replace hA : St 321 [(0, _), (1, _), (5, _), (6, _), (8, _), (9, _), (10, _), (11, _), (12, _), (13, _), (75, _)] a := hA.sub ((.cons rfl (.cons rfl (.cons rfl (.cons rfl (.cons rfl (.cons rfl (.cons rfl (.cons rfl (.cons rfl (.cons rfl (.cons rfl .nil))))))))))))
            refine Ends.condT hA rfl ?_
            refine Ends.seq ?_
            replace hM := hM.front (k := 10) rfl
            replace hM : Mem _ _ [bundle (hs.map owC), bundle ((ms.eraseIdx n20).map (maC q4)), pt b18 #[.int .i64 x0, .int .i64 x1, .int .i64 x2] 100, pt q4 #[.pointer (some ⟨m5, 0, none⟩), .int .i64 3, .slice (some ⟨nb7, 0, none⟩) n.toNat n.toNat, .slice (some ⟨ob8, 0, none⟩) 4 4] 128, pt ob8 ((vals (gs.map owV))) 43, bundle (gs.map owC), memO m5 c6 l s op, pt wb10 #[.slice (some ⟨gH, 0, none⟩) H.length c12] 93, own 3 1 (.slice (some ⟨gH, 0, none⟩) H.length c12) H.length (H.map (Value.int .i64)), pt b13 ((vals (ms.map maV))) 98, pt b15 ((vals (hs.map owV))) 65] _ := hM
            replace hM := hM.openB hyh
            have hah := hM.ownAt (k := 0) (e := 3) (sz := 1) (a := ah) (n := Yh.length) (cap := ch) (xs := Yh.map (Value.int .i64)) rfl hs25
            have hcap := (hM.ownLe (k := 0) (e := 3) (sz := 1) (a := ah) (n := Yh.length) (cap := ch) (xs := Yh.map (Value.int .i64)) rfl).1
            obtain ⟨gh, hgh⟩ := hah
            subst hgh
            replace hM : Mem _ _ [own 3 1 (.slice (some ⟨gh, 0, none⟩) Yh.length ch) Yh.length (Yh.map (Value.int .i64)), bundle ((hs.eraseIdx n20).map owC), bundle ((ms.eraseIdx n20).map (maC q4)), pt b18 #[.int .i64 x0, .int .i64 x1, .int .i64 x2] 100, pt q4 #[.pointer (some ⟨m5, 0, none⟩), .int .i64 3, .slice (some ⟨nb7, 0, none⟩) n.toNat n.toNat, .slice (some ⟨ob8, 0, none⟩) 4 4] 128, pt ob8 ((vals (gs.map owV))) 43, bundle (gs.map owC), memO m5 c6 l s op, pt wb10 #[.slice (some ⟨gH, 0, none⟩) H.length c12] 93, own 3 1 (.slice (some ⟨gH, 0, none⟩) H.length c12) H.length (H.map (Value.int .i64)), pt b13 ((vals (ms.map maV))) 98, pt b15 ((vals (hs.map owV))) 65] _ := hM
            refine Ends.drawn (Mem w nof [own 3 1 (.slice (some ⟨gh, 0, none⟩) Yh.length ch) Yh.length (Yh.map (Value.int .i64)), pt b18 #[.int .i64 x0, .int .i64 x1, .int .i64 x2] 100, pt q4 #[.pointer (some ⟨m5, 0, none⟩), .int .i64 3, .slice (some ⟨nb7, 0, none⟩) n.toNat n.toNat, .slice (some ⟨ob8, 0, none⟩) 4 4] 128, pt ob8 ((vals (gs.map owV))) 43, pt wb10 #[.slice (some ⟨gH, 0, none⟩) H.length c12] 93, own 3 1 (.slice (some ⟨gH, 0, none⟩) H.length c12) H.length (H.map (Value.int .i64)), pt b13 ((vals (ms.map maV))) 98, pt b15 ((vals (hs.map owV))) 65]) (.cons (0, true) (.cons (1, true) (.cons (2, true) (.cons (3, true) (.cons (4, true) (.cons (5, true) (.cons (6, true) (.cons (7, true) (.cons (8, true) (.cons (9, true) (.cons (10, true) .nil))))))))))) 11 mixed (by kernel_rfl) (by kernel_rfl) (by kernel_rfl) ((((hM.drop 7).drop 6).drop 2).drop 1).drew ?_
            replace hM := hM.drew
            refine D.valF hA rfl (fun _ => R.fieldAddr (q := 2) fi100_2 rfl rfl rfl) rfl ?_; clear hA a; intro a hA
            refine D.val hA rfl (by kernel_rfl) (fun _ hM => R.load sz3 rfl (hM.cell (k := 1) rfl rfl)) rfl ?_; clear hA a; intro a hA
            refine D.valF hA rfl (fun _ => R.conv Try.underlying22 Try.underlying3 rfl) rfl ?_; clear hA a; intro a hA
            refine D.valF hA rfl (fun _ => R.move rfl) rfl ?_; clear hA a; intro a hA
            refine D.valF hA rfl (fun _ => R.indexAddrA (q := n20) ar65 rfl rfl (by first | omega | (simp; done)) (by first | omega | (simp; done))) rfl ?_; clear hA a; intro a hA
            refine D.val hA rfl (by kernel_rfl) (fun _ hM => R.load sz43 rfl (hM.cell (k := 7) rfl (vals_at _ _ _ (owV_at3 hyh)))) rfl ?_; clear hA a; intro a hA
            refine D.valF hA rfl (fun _ => R.lenS Try.underlying43 rfl rfl) rfl ?_; clear hA a; intro a hA
            refine D.valF hA rfl (fun _ => R.to (v := .int .u64 (Yh.length : Int)) (R.conv Try.underlying22 Try.underlying3 rfl) (congrArg (Value.int .u64) (by rw [IntKind.wrap_u64]; omega))) rfl ?_; clear hA a; intro a hA
            refine D.valF hA rfl (fun _ => R.remI rfl rfl rfl ⟨u64_nn _, by omega⟩) rfl ?_; clear hA a; intro a hA
            obtain ⟨kk, hkk, ekk⟩ := umod_ex x2 (Yh.length : Int) (by omega)
            refine D.valF hA rfl (fun _ => R.to (v := .int .i64 (kk : Int)) (R.conv Try.underlying3 Try.underlying22 rfl) (congrArg (Value.int .i64) ekk)) rfl ?_; clear hA a; intro a hA
            refine D.valF hA rfl (fun _ => R.assign rfl) rfl ?_; clear hA a; intro a hA
            refine D.done ?_
            replace hA : St 321 [(0, _), (1, _), (5, _), (6, _), (8, _), (9, _), (10, _), (11, _), (13, _), (14, _)] a := hA.sub ((.cons rfl (.cons rfl (.cons rfl (.cons rfl (.cons rfl (.cons rfl (.cons rfl (.cons rfl (.cons rfl (.cons rfl .nil)))))))))))
            refine Ends.seq ?_
            refine Ends.region ?_
            refine S.val hA (R.move rfl) rfl ?_; clear hA a; intro a hA
            refine S.val hA (R.indexAddrA (q := n20) ar65 rfl rfl (by first | omega | (simp; done)) (by first | omega | (simp; done))) rfl ?_; clear hA a; intro a hA
            refine S.val hA (R.load sz43 rfl (hM.cell (k := 11) rfl (vals_at _ _ _ (owV_at3 hyh)))) rfl ?_; clear hA a; intro a hA
            refine S.val hA (R.move rfl) rfl ?_; clear hA a; intro a hA
            refine S.val hA (R.indexAddr (q := kk) sl43 rfl rfl (by first | omega | (simp; done)) (by first | omega | (simp; done))) rfl ?_; clear hA a; intro a hA
            refine S.val hA (R.load sz3 rfl (hM.ownCell (k := 0) rfl (mapi_get _ _ (by first | omega | (simp; done))))) rfl ?_; clear hA a; intro a hA
            refine S.val hA (R.assign rfl) rfl ?_; clear hA a; intro a hA
            refine S.done ?_
            replace hA : St 321 [(0, _), (1, _), (5, _), (6, _), (8, _), (9, _), (10, _), (11, _), (13, _), (14, _), (15, _)] a := hA.sub ((.cons rfl (.cons rfl (.cons rfl (.cons rfl (.cons rfl (.cons rfl (.cons rfl (.cons rfl (.cons rfl (.cons rfl (.cons rfl .nil))))))))))))
            refine Ends.seq ?_
            refine Ends.drawn (Mem w nof [own 3 1 (.slice (some ⟨gh, 0, none⟩) Yh.length ch) Yh.length (Yh.map (Value.int .i64)), pt b18 #[.int .i64 x0, .int .i64 x1, .int .i64 x2] 100, pt q4 #[.pointer (some ⟨m5, 0, none⟩), .int .i64 3, .slice (some ⟨nb7, 0, none⟩) n.toNat n.toNat, .slice (some ⟨ob8, 0, none⟩) 4 4] 128, pt ob8 ((vals (gs.map owV))) 43, pt wb10 #[.slice (some ⟨gH, 0, none⟩) H.length c12] 93, own 3 1 (.slice (some ⟨gH, 0, none⟩) H.length c12) H.length (H.map (Value.int .i64)), pt b13 ((vals (ms.map maV))) 98, pt b15 ((vals (hs.map owV))) 65]) (.cons (0, true) (.cons (2, true) (.cons (3, true) (.cons (4, true) (.cons (5, true) (.cons (6, true) (.cons (8, true) (.cons (9, true) (.cons (10, true) (.cons (11, true) (.cons (12, true) (.cons (13, true) (.cons (1, false) (.cons (7, false) (.cons (14, false) (.cons (15, true) (.cons (16, false) .nil))))))))))))))))) 16 mixed (by kernel_rfl) (by kernel_rfl) (by kernel_rfl) ((((hM.drop 7).drop 6).drop 2).drop 1).drew ?_
            replace hM := hM.drew
            refine D.valF hA rfl (fun _ => R.move rfl) rfl ?_; clear hA a; intro a hA
            refine D.valF hA rfl (fun _ => R.move rfl) rfl ?_; clear hA a; intro a hA
            refine D.valF hA rfl (fun _ => R.indexAddrA (q := n20) ar65 rfl rfl (by first | omega | (simp; done)) (by first | omega | (simp; done))) rfl ?_; clear hA a; intro a hA
            refine D.val hA rfl (by kernel_rfl) (fun _ hM => R.load sz43 rfl (hM.cell (k := 7) rfl (vals_at _ _ _ (owV_at3 hyh)))) rfl ?_; clear hA a; intro a hA
            refine D.valF hA rfl (fun _ => R.move rfl) rfl ?_; clear hA a; intro a hA
            refine D.valF hA rfl (fun _ => R.sliceH (h := kk) Try.underlying43 info3 rfl rfl (by first | omega | (simp; done)) (by first | omega | (simp; done))) rfl ?_; clear hA a; intro a hA
            refine D.valF hA rfl (fun _ => R.move rfl) rfl ?_; clear hA a; intro a hA
            refine D.valF hA rfl (fun _ => R.indexAddrA (q := n20) ar65 rfl rfl (by first | omega | (simp; done)) (by first | omega | (simp; done))) rfl ?_; clear hA a; intro a hA
            refine D.val hA rfl (by kernel_rfl) (fun _ hM => R.load sz43 rfl (hM.cell (k := 7) rfl (vals_at _ _ _ (owV_at3 hyh)))) rfl ?_; clear hA a; intro a hA
            refine D.valF hA rfl (fun _ => R.move rfl) rfl ?_; clear hA a; intro a hA
            refine D.valF hA rfl (fun _ => R.addI rfl rfl (r := ((kk : Int)) + 1) rfl (by first | omega | (simp; done))) rfl ?_; clear hA a; intro a hA
            refine D.valF hA rfl (fun _ => R.sliceL (lo := kk + 1) Try.underlying43 info3 rfl rfl rfl (by omega) (by omega) hcap) rfl ?_; clear hA a; intro a hA
            refine D.buildSl0 hA hM rfl Try.underlying43 info3 rfl ?_; clear hA hM a; intro b26 w10 hb27 hM; refine ⟨(fun hM => ((((hM.drop 7).drop 6).drop 2).drop 1)) hM.tail, fun a hA => ?_⟩
            replace hM := hM.ownPt (cap := 0) (n := 0) (sz := 1) (xs := []) rfl (by decide) (by decide) rfl
            replace hM : Mem _ _ [own 3 1 (.slice (some ⟨b26, 0, none⟩) 0 0) 0 ((([] : List Int)).map (Value.int .i64)), own 3 1 (.slice (some ⟨gh, 0, none⟩) Yh.length ch) Yh.length (Yh.map (Value.int .i64)), bundle ((hs.eraseIdx n20).map owC), bundle ((ms.eraseIdx n20).map (maC q4)), pt b18 #[.int .i64 x0, .int .i64 x1, .int .i64 x2] 100, pt q4 #[.pointer (some ⟨m5, 0, none⟩), .int .i64 3, .slice (some ⟨nb7, 0, none⟩) n.toNat n.toNat, .slice (some ⟨ob8, 0, none⟩) 4 4] 128, pt ob8 ((vals (gs.map owV))) 43, bundle (gs.map owC), memO m5 c6 l s op, pt wb10 #[.slice (some ⟨gH, 0, none⟩) H.length c12] 93, own 3 1 (.slice (some ⟨gH, 0, none⟩) H.length c12) H.length (H.map (Value.int .i64)), pt b13 ((vals (ms.map maV))) 98, pt b15 ((vals (hs.map owV))) 65] _ := hM
            have hl7 : 0 + kk = (Yh.take kk).length := by rw [List.length_take]; omega
            refine D.appendG (k := 0) (news := (Yh.take kk).map (Value.int .i64)) hA hM rfl rfl Try.underlying43 info3 rfl rfl rfl rfl rfl rfl rfl (by simp; omega) (fun j u hu => by rw [Addr.add_lit, Nat.zero_add]; exact hM.ownCell (k := 1) rfl (news_take hu)) (allOne_ints _) (by show 0 + kk ≤ (9223372036854775807 : Nat); omega) (by show (0 + kk) * 8 ≤ _; omega) rfl ?_; clear hA hM a; intro a28 c29 w11 hM
            rw [hl7, List.map_nil, List.nil_append] at hM
            replace hM : Mem _ _ [own 3 1 (.slice a28 (((Yh.take kk)).length) c29) (((Yh.take kk)).length) (((Yh.take kk)).map (Value.int .i64)), own 3 1 (.slice (some ⟨gh, 0, none⟩) Yh.length ch) Yh.length (Yh.map (Value.int .i64)), bundle ((hs.eraseIdx n20).map owC), bundle ((ms.eraseIdx n20).map (maC q4)), pt b18 #[.int .i64 x0, .int .i64 x1, .int .i64 x2] 100, pt q4 #[.pointer (some ⟨m5, 0, none⟩), .int .i64 3, .slice (some ⟨nb7, 0, none⟩) n.toNat n.toNat, .slice (some ⟨ob8, 0, none⟩) 4 4] 128, pt ob8 ((vals (gs.map owV))) 43, bundle (gs.map owC), memO m5 c6 l s op, pt wb10 #[.slice (some ⟨gH, 0, none⟩) H.length c12] 93, own 3 1 (.slice (some ⟨gH, 0, none⟩) H.length c12) H.length (H.map (Value.int .i64)), pt b13 ((vals (ms.map maV))) 98, pt b15 ((vals (hs.map owV))) 65] _ := hM
            refine ⟨(((((hM.drop 8).drop 7).drop 3).drop 2).drop 0), fun a hA => ?_⟩; rw [hl7] at hA
            have hl8 : (Yh.take kk).length + (Yh.length - (kk + 1)) = (Yh.eraseIdx kk).length := by rw [List.eraseIdx_eq_take_drop_succ, List.length_append, List.length_drop]
            have hl9 : (Yh.take kk).length = kk := by rw [List.length_take]; omega
            refine D.appendG (k := 0) (news := (Yh.drop (kk + 1)).map (Value.int .i64)) hA hM rfl rfl Try.underlying43 info3 rfl rfl rfl rfl rfl rfl rfl (by simp) (fun j u hu => by have hjl := (mapi_take _ j u hu).1; rw [List.length_drop] at hjl; have hc0 : ¬ ch = kk + 1 := (by omega); rw [if_neg hc0, Addr.add_lit, Nat.zero_add]; exact hM.ownCell (k := 1) rfl (news_drop hu)) (allOne_ints _) (by show (Yh.take kk).length + (Yh.length - (kk + 1)) ≤ (9223372036854775807 : Nat); omega) (by show ((Yh.take kk).length + (Yh.length - (kk + 1))) * 8 ≤ _; omega) rfl ?_; clear hA hM a; intro a30 c31 w12 hM
            rw [hl8, ← List.map_append, ← List.eraseIdx_eq_take_drop_succ] at hM
            replace hM : Mem _ _ [own 3 1 (.slice a30 (((Yh.eraseIdx kk)).length) c31) (((Yh.eraseIdx kk)).length) (((Yh.eraseIdx kk)).map (Value.int .i64)), own 3 1 (.slice (some ⟨gh, 0, none⟩) Yh.length ch) Yh.length (Yh.map (Value.int .i64)), bundle ((hs.eraseIdx n20).map owC), bundle ((ms.eraseIdx n20).map (maC q4)), pt b18 #[.int .i64 x0, .int .i64 x1, .int .i64 x2] 100, pt q4 #[.pointer (some ⟨m5, 0, none⟩), .int .i64 3, .slice (some ⟨nb7, 0, none⟩) n.toNat n.toNat, .slice (some ⟨ob8, 0, none⟩) 4 4] 128, pt ob8 ((vals (gs.map owV))) 43, bundle (gs.map owC), memO m5 c6 l s op, pt wb10 #[.slice (some ⟨gH, 0, none⟩) H.length c12] 93, own 3 1 (.slice (some ⟨gH, 0, none⟩) H.length c12) H.length (H.map (Value.int .i64)), pt b13 ((vals (ms.map maV))) 98, pt b15 ((vals (hs.map owV))) 65] _ := hM
            refine ⟨(((((hM.drop 8).drop 7).drop 3).drop 2).drop 0), fun a hA => ?_⟩; rw [hl8] at hA
            refine D.valF hA rfl (fun _ => R.indexAddrA (q := n20) ar65 rfl rfl (by first | omega | (simp; done)) (by first | omega | (simp; done))) rfl ?_; clear hA a; intro a hA
            refine D.store (k := 12) hA hM rfl sz43 rfl rfl rfl rfl (vals_get _ _ (by first | omega | (rw [List.length_map]; omega))) ?_; clear hM
            intro w13 hM; refine ⟨fun hne => absurd rfl hne, ?_⟩
            rw [vals_set] at hM
            replace hM : Mem _ _ [own 3 1 (.slice a30 (((Yh.eraseIdx kk)).length) c31) (((Yh.eraseIdx kk)).length) (((Yh.eraseIdx kk)).map (Value.int .i64)), own 3 1 (.slice (some ⟨gh, 0, none⟩) Yh.length ch) Yh.length (Yh.map (Value.int .i64)), bundle ((hs.eraseIdx n20).map owC), bundle ((ms.eraseIdx n20).map (maC q4)), pt b18 #[.int .i64 x0, .int .i64 x1, .int .i64 x2] 100, pt q4 #[.pointer (some ⟨m5, 0, none⟩), .int .i64 3, .slice (some ⟨nb7, 0, none⟩) n.toNat n.toNat, .slice (some ⟨ob8, 0, none⟩) 4 4] 128, pt ob8 ((vals (gs.map owV))) 43, bundle (gs.map owC), memO m5 c6 l s op, pt wb10 #[.slice (some ⟨gH, 0, none⟩) H.length c12] 93, own 3 1 (.slice (some ⟨gH, 0, none⟩) H.length c12) H.length (H.map (Value.int .i64)), pt b13 ((vals (ms.map maV))) 98, pt b15 ((vals (((hs.map owV)).set n20 (.slice a30 (((Yh.eraseIdx kk)).length) c31)))) 65] _ := hM
            refine D.done ?_
            replace hA : St 321 [(0, _), (1, _), (5, _), (6, _), (8, _), (9, _), (10, _), (11, _), (13, _), (15, _)] a := hA.sub ((.cons rfl (.cons rfl (.cons rfl (.cons rfl (.cons rfl (.cons rfl (.cons rfl (.cons rfl (.cons rfl (.cons rfl .nil)))))))))))
            have hgv := hold_give hhold (k := n20) (Y := Yh) (by rw [List.getElem?_map, hyh]; rfl) (i := kk) (by omega) 0 0 0 0
            obtain ⟨hh1, hh2, hh3, hh4⟩ := hgv
            refine Ends.region ?_
            refine S.val hA (R.move rfl) rfl ?_; clear hA a; intro a hA
            refine S.val hA (R.move rfl) rfl ?_; clear hA a; intro a hA
            refine S.val hA (R.move rfl) rfl ?_; clear hA a; intro a hA
            refine S.val hA (R.move rfl) rfl ?_; clear hA a; intro a hA
            refine S.call hA (R.callF Try.func51 rfl rfl rfl) rfl (pgive_ok q4 m5 nb7 n.toNat ob8 4 3 ((n20 : Int)) (Yh.getD kk 0) ⟨hh2, by omega⟩ (by first | omega | decide | (simp; done) | (simp; omega)) _ (hM.block (k := 5) rfl)) ?_; clear hA a
            rintro e w14 ⟨r32, rfl, hn⟩
            replace hM : Mem _ _ [pt r32 #[.pointer (some ⟨q4, 0, none⟩), .int .i64 ((n20 : Int)), .bool true, .int .i64 (Yh.getD kk 0), .int .i64 0, .int .i64 0, .int .i64 0] 131, own 3 1 (.slice a30 (((Yh.eraseIdx kk)).length) c31) (((Yh.eraseIdx kk)).length) (((Yh.eraseIdx kk)).map (Value.int .i64)), own 3 1 (.slice (some ⟨gh, 0, none⟩) Yh.length ch) Yh.length (Yh.map (Value.int .i64)), bundle ((hs.eraseIdx n20).map owC), bundle ((ms.eraseIdx n20).map (maC q4)), pt b18 #[.int .i64 x0, .int .i64 x1, .int .i64 x2] 100, pt q4 #[.pointer (some ⟨m5, 0, none⟩), .int .i64 3, .slice (some ⟨nb7, 0, none⟩) n.toNat n.toNat, .slice (some ⟨ob8, 0, none⟩) 4 4] 128, pt ob8 ((vals (gs.map owV))) 43, bundle (gs.map owC), memO m5 c6 l s op, pt wb10 #[.slice (some ⟨gH, 0, none⟩) H.length c12] 93, own 3 1 (.slice (some ⟨gH, 0, none⟩) H.length c12) H.length (H.map (Value.int .i64)), pt b13 ((vals (ms.map maV))) 98, pt b15 ((vals (((hs.map owV)).set n20 (.slice a30 (((Yh.eraseIdx kk)).length) c31)))) 65] _ := hM.call hn; clear hn
            refine ⟨.pointer (some ⟨r32, 0, none⟩), rfl, fun a hA => ?_⟩
            refine S.val hA (R.move rfl) rfl ?_; clear hA a; intro a hA
            refine S.val hA (R.build (cells := #[.pointer (some ⟨r32, 0, none⟩), .bool true, .int .i64 (Yh.getD kk 0), .int .i64 0]) rfl (by kernel_rfl)) rfl ?_; clear hA a; intro a hA
            refine S.box hA hM rfl rfl ?_; clear hA hM a; intro b33 w15 hb34 hM a hA
            replace hM : Mem _ _ [pt b33 #[.pointer (some ⟨r32, 0, none⟩), .bool true, .int .i64 (Yh.getD kk 0), .int .i64 0] 102, pt r32 #[.pointer (some ⟨q4, 0, none⟩), .int .i64 ((n20 : Int)), .bool true, .int .i64 (Yh.getD kk 0), .int .i64 0, .int .i64 0, .int .i64 0] 131, own 3 1 (.slice a30 (((Yh.eraseIdx kk)).length) c31) (((Yh.eraseIdx kk)).length) (((Yh.eraseIdx kk)).map (Value.int .i64)), own 3 1 (.slice (some ⟨gh, 0, none⟩) Yh.length ch) Yh.length (Yh.map (Value.int .i64)), bundle ((hs.eraseIdx n20).map owC), bundle ((ms.eraseIdx n20).map (maC q4)), pt b18 #[.int .i64 x0, .int .i64 x1, .int .i64 x2] 100, pt q4 #[.pointer (some ⟨m5, 0, none⟩), .int .i64 3, .slice (some ⟨nb7, 0, none⟩) n.toNat n.toNat, .slice (some ⟨ob8, 0, none⟩) 4 4] 128, pt ob8 ((vals (gs.map owV))) 43, bundle (gs.map owC), memO m5 c6 l s op, pt wb10 #[.slice (some ⟨gH, 0, none⟩) H.length c12] 93, own 3 1 (.slice (some ⟨gH, 0, none⟩) H.length c12) H.length (H.map (Value.int .i64)), pt b13 ((vals (ms.map maV))) 98, pt b15 ((vals (((hs.map owV)).set n20 (.slice a30 (((Yh.eraseIdx kk)).length) c31)))) 65] _ := hM
            refine S.val hA (R.indexAddrA (q := n20) ar98 rfl rfl (by first | omega | (simp; done)) (by first | omega | (simp; done))) rfl ?_; clear hA a; intro a hA
            refine S.store (k := 13) hA hM sz97 rfl rfl rfl rfl (vals_get _ _ (by first | omega | (rw [List.length_map]; omega))) ?_; clear hM
            intro w16 hM
            rw [vals_set] at hM
            replace hM : Mem _ _ [pt b33 #[.pointer (some ⟨r32, 0, none⟩), .bool true, .int .i64 (Yh.getD kk 0), .int .i64 0] 102, pt r32 #[.pointer (some ⟨q4, 0, none⟩), .int .i64 ((n20 : Int)), .bool true, .int .i64 (Yh.getD kk 0), .int .i64 0, .int .i64 0, .int .i64 0] 131, own 3 1 (.slice a30 (((Yh.eraseIdx kk)).length) c31) (((Yh.eraseIdx kk)).length) (((Yh.eraseIdx kk)).map (Value.int .i64)), own 3 1 (.slice (some ⟨gh, 0, none⟩) Yh.length ch) Yh.length (Yh.map (Value.int .i64)), bundle ((hs.eraseIdx n20).map owC), bundle ((ms.eraseIdx n20).map (maC q4)), pt b18 #[.int .i64 x0, .int .i64 x1, .int .i64 x2] 100, pt q4 #[.pointer (some ⟨m5, 0, none⟩), .int .i64 3, .slice (some ⟨nb7, 0, none⟩) n.toNat n.toNat, .slice (some ⟨ob8, 0, none⟩) 4 4] 128, pt ob8 ((vals (gs.map owV))) 43, bundle (gs.map owC), memO m5 c6 l s op, pt wb10 #[.slice (some ⟨gH, 0, none⟩) H.length c12] 93, own 3 1 (.slice (some ⟨gH, 0, none⟩) H.length c12) H.length (H.map (Value.int .i64)), pt b13 ((vals (((ms.map maV)).set n20 (.pointer (some ⟨b33, 0, none⟩))))) 98, pt b15 ((vals (((hs.map owV)).set n20 (.slice a30 (((Yh.eraseIdx kk)).length) c31)))) 65] _ := hM
            refine S.done ?_
            replace hA : St 321 [(0, _), (1, _), (5, _), (6, _), (8, _), (9, _), (10, _), (11, _), (13, _)] a := hA.sub ((.cons rfl (.cons rfl (.cons rfl (.cons rfl (.cons rfl (.cons rfl (.cons rfl (.cons rfl (.cons rfl .nil))))))))))
            refine Ends.exit rfl ?_
            replace hA : St 321 [(0, _), (1, _), (5, _), (6, _), (8, _), (9, _), (10, _), (11, _)] a := hA.sub ((.cons rfl (.cons rfl (.cons rfl (.cons rfl (.cons rfl (.cons rfl (.cons rfl (.cons rfl .nil)))))))))
            refine Ends.region ?_
            refine S.val hA (R.move rfl) rfl ?_; clear hA a; intro a hA
            refine S.val hA (R.addI rfl rfl (r := ((i : Int)) + 1) rfl (by first | omega | (simp; done))) rfl ?_; clear hA a; intro a hA
            refine S.val hA (R.assign rfl) rfl ?_; clear hA a; intro a hA
            refine S.done ?_
            replace hA : St 321 [(0, _), (1, _), (5, _), (6, _), (8, _), (9, _), (10, _), (11, _)] a := hA.sub ((.cons rfl (.cons rfl (.cons rfl (.cons rfl (.cons rfl (.cons rfl (.cons rfl (.cons rfl .nil)))))))))
            replace hM := hM.front (k := 5) rfl
            replace hM := hM.front (k := 2) rfl
            replace hM := hM.front (k := 2) rfl
            replace hM : Mem _ _ [pt b33 #[.pointer (some ⟨r32, 0, none⟩), .bool true, .int .i64 (Yh.getD kk 0), .int .i64 0] 102, pt r32 #[.pointer (some ⟨q4, 0, none⟩), .int .i64 ((n20 : Int)), .bool true, .int .i64 (Yh.getD kk 0), .int .i64 0, .int .i64 0, .int .i64 0] 131, bundle ((ms.eraseIdx n20).map (maC q4)), own 3 1 (.slice a30 (((Yh.eraseIdx kk)).length) c31) (((Yh.eraseIdx kk)).length) (((Yh.eraseIdx kk)).map (Value.int .i64)), own 3 1 (.slice (some ⟨gh, 0, none⟩) Yh.length ch) Yh.length (Yh.map (Value.int .i64)), bundle ((hs.eraseIdx n20).map owC), pt b18 #[.int .i64 x0, .int .i64 x1, .int .i64 x2] 100, pt q4 #[.pointer (some ⟨m5, 0, none⟩), .int .i64 3, .slice (some ⟨nb7, 0, none⟩) n.toNat n.toNat, .slice (some ⟨ob8, 0, none⟩) 4 4] 128, pt ob8 ((vals (gs.map owV))) 43, bundle (gs.map owC), memO m5 c6 l s op, pt wb10 #[.slice (some ⟨gH, 0, none⟩) H.length c12] 93, own 3 1 (.slice (some ⟨gH, 0, none⟩) H.length c12) H.length (H.map (Value.int .i64)), pt b13 ((vals (((ms.map maV)).set n20 (.pointer (some ⟨b33, 0, none⟩))))) 98, pt b15 ((vals (((hs.map owV)).set n20 (.slice a30 (((Yh.eraseIdx kk)).length) c31)))) 65] _ := hM
            replace hM := (hM.pack (cs := [pt b33 #[.pointer (some ⟨r32, 0, none⟩), .bool true, .int .i64 (Yh.getD kk 0), .int .i64 0] 102, pt r32 #[.pointer (some ⟨q4, 0, none⟩), .int .i64 ((n20 : Int)), .bool true, .int .i64 (Yh.getD kk 0), .int .i64 0, .int .i64 0, .int .i64 0] 131])).closeB (f := maC q4) (y := (some ⟨b33, r32, ⟨true, Yh.getD kk 0, 0, 0, 0⟩, true, Yh.getD kk 0, 0, (n20 : Int)⟩ : MS)) hmj
            have hmp : (ms.map maV).set n20 (.pointer (some ⟨b33, 0, none⟩)) = (ms.set n20 (some ⟨b33, r32, ⟨true, Yh.getD kk 0, 0, 0, 0⟩, true, Yh.getD kk 0, 0, (n20 : Int)⟩)).map maV := by rw [List.map_set]; rfl
            rw [hmp] at hM
            have hts : tsOf (ms.set n20 (some ⟨b33, r32, ⟨true, Yh.getD kk 0, 0, 0, 0⟩, true, Yh.getD kk 0, 0, (n20 : Int)⟩)) = (tsOf ms).set n20 (some ⟨true, Yh.getD kk 0, 0, 0, 0⟩) := tsOf_set _ _ _
            replace hM := hM.front (k := 3) rfl
            replace hM := hM.front (k := 2) rfl
            replace hM : Mem _ _ [own 3 1 (.slice a30 (((Yh.eraseIdx kk)).length) c31) (((Yh.eraseIdx kk)).length) (((Yh.eraseIdx kk)).map (Value.int .i64)), bundle ((hs.eraseIdx n20).map owC), bundle ((ms.set n20 (some ⟨b33, r32, ⟨true, Yh.getD kk 0, 0, 0, 0⟩, true, Yh.getD kk 0, 0, (n20 : Int)⟩)).map (maC q4)), own 3 1 (.slice (some ⟨gh, 0, none⟩) Yh.length ch) Yh.length (Yh.map (Value.int .i64)), pt b18 #[.int .i64 x0, .int .i64 x1, .int .i64 x2] 100, pt q4 #[.pointer (some ⟨m5, 0, none⟩), .int .i64 3, .slice (some ⟨nb7, 0, none⟩) n.toNat n.toNat, .slice (some ⟨ob8, 0, none⟩) 4 4] 128, pt ob8 ((vals (gs.map owV))) 43, bundle (gs.map owC), memO m5 c6 l s op, pt wb10 #[.slice (some ⟨gH, 0, none⟩) H.length c12] 93, own 3 1 (.slice (some ⟨gH, 0, none⟩) H.length c12) H.length (H.map (Value.int .i64)), pt b13 ((vals ((ms.set n20 (some ⟨b33, r32, ⟨true, Yh.getD kk 0, 0, 0, 0⟩, true, Yh.getD kk 0, 0, (n20 : Int)⟩)).map maV))) 98, pt b15 ((vals (((hs.map owV)).set n20 (.slice a30 (((Yh.eraseIdx kk)).length) c31)))) 65] _ := hM
            replace hM := Mem.closeB (f := owC) (y := (⟨Yh.eraseIdx kk, a30, c31⟩ : OwS)) hM hyh
            have hhp : (hs.map owV).set n20 (.slice a30 (Yh.eraseIdx kk).length c31) = (hs.set n20 (⟨Yh.eraseIdx kk, a30, c31⟩ : OwS)).map owV := by rw [List.map_set]; rfl
            rw [hhp] at hM
            replace hM := hM.front (k := 11) rfl
            replace hM := hM.front (k := 2) rfl
            replace hM := hM.front (k := 11) rfl
            replace hM := hM.front (k := 11) rfl
            replace hM := hM.front (k := 11) rfl
            replace hM := hM.front (k := 11) rfl
            replace hM := hM.front (k := 11) rfl
            replace hM := hM.front (k := 11) rfl
            replace hM := hM.front (k := 11) rfl
            replace hM : Mem _ _ [pt q4 #[.pointer (some ⟨m5, 0, none⟩), .int .i64 3, .slice (some ⟨nb7, 0, none⟩) n.toNat n.toNat, .slice (some ⟨ob8, 0, none⟩) 4 4] 128, pt ob8 ((vals (gs.map owV))) 43, bundle (gs.map owC), memO m5 c6 l s op, pt wb10 #[.slice (some ⟨gH, 0, none⟩) H.length c12] 93, own 3 1 (.slice (some ⟨gH, 0, none⟩) H.length c12) H.length (H.map (Value.int .i64)), pt b13 ((vals ((ms.set n20 (some ⟨b33, r32, ⟨true, Yh.getD kk 0, 0, 0, 0⟩, true, Yh.getD kk 0, 0, (n20 : Int)⟩)).map maV))) 98, bundle ((ms.set n20 (some ⟨b33, r32, ⟨true, Yh.getD kk 0, 0, 0, 0⟩, true, Yh.getD kk 0, 0, (n20 : Int)⟩)).map (maC q4)), pt b15 ((vals ((hs.set n20 (⟨Yh.eraseIdx kk, a30, c31⟩ : OwS)).map owV))) 65, bundle ((hs.set n20 (⟨Yh.eraseIdx kk, a30, c31⟩ : OwS)).map owC), own 3 1 (.slice (some ⟨gh, 0, none⟩) Yh.length ch) Yh.length (Yh.map (Value.int .i64)), pt b18 #[.int .i64 x0, .int .i64 x1, .int .i64 x2] 100] _ := hM
            replace hM : Mem _ _ [pt q4 #[.pointer (some ⟨m5, 0, none⟩), .int .i64 3, .slice (some ⟨nb7, 0, none⟩) n.toNat n.toNat, .slice (some ⟨ob8, 0, none⟩) 4 4] 128, pt ob8 ((vals (gs.map owV))) 43, bundle (gs.map owC), memO m5 c6 l s op, pt wb10 #[.slice (some ⟨gH, 0, none⟩) H.length c12] 93, own 3 1 (.slice (some ⟨gH, 0, none⟩) H.length c12) H.length (H.map (Value.int .i64)), pt b13 ((vals ((ms.set n20 (some ⟨b33, r32, ⟨true, Yh.getD kk 0, 0, 0, 0⟩, true, Yh.getD kk 0, 0, (n20 : Int)⟩)).map maV))) 98, bundle ((ms.set n20 (some ⟨b33, r32, ⟨true, Yh.getD kk 0, 0, 0, 0⟩, true, Yh.getD kk 0, 0, (n20 : Int)⟩)).map (maC q4)), pt b15 ((vals ((hs.set n20 (⟨Yh.eraseIdx kk, a30, c31⟩ : OwS)).map owV))) 65, bundle ((hs.set n20 (⟨Yh.eraseIdx kk, a30, c31⟩ : OwS)).map owC)] _ := hM.firstN 10
            exact hNext ((i + 1, V, l, xs, H, s, op, gs, (ms.set n20 (some ⟨b33, r32, ⟨true, Yh.getD kk 0, 0, 0, 0⟩, true, Yh.getD kk 0, 0, (n20 : Int)⟩)), (hs.set n20 (⟨Yh.eraseIdx kk, a30, c31⟩ : OwS)))) _ _ ((by show 300 - (i + 1) < 300 - i; omega)) ⟨hA.sub ((.cons rfl (.cons rfl (.cons rfl (.cons rfl (.cons rfl (.cons rfl (.cons rfl (.cons rfl .nil))))))))), hM, (by omega), (by rw [hts]; exact gi_begin (k := n20) hg (acti_give (n := n) (l := l) (H := H) (k := n20) ⟨hh2, hh3⟩ hh4)), hgl, (by rw [List.length_set]; exact hml), (by rw [List.length_set]; exact hhl), (mok_set hmok (fun y hy => by obtain rfl := Option.some.inj hy; exact ⟨rfl, rfl, (fun _ => rfl), (fun h => nomatch h)⟩)), (by rw [hts, List.map_set]; exact hh1), (by omega), (by omega)⟩
          ·
            refine Ends.region ?_
            refine S.val hA (R.fieldAddr (q := 1) fi100_1 rfl rfl rfl) rfl ?_; clear hA a; intro a hA
            refine S.val hA (R.load sz3 rfl (hM.cell (k := 1) rfl rfl)) rfl ?_; clear hA a; intro a hA
            refine S.val hA (R.tt (R.eql rfl rfl) (by first | omega | (simp; done))) rfl ?_; clear hA a; intro a hA
            refine S.val hA (R.move rfl) rfl ?_; clear hA a; intro a hA
            refine S.valg (dj := 69) hA (by kernel_rfl) rfl (R.move rfl) rfl ?_; clear hA a; intro a hA
            refine S.valg (dj := 69) hA (by kernel_rfl) rfl (R.indexAddrA (q := n20) ar65 rfl rfl (by first | omega | (simp; done)) (by first | omega | (simp; done))) rfl ?_; clear hA a; intro a hA
            refine S.valg (dj := 69) hA (by kernel_rfl) rfl (R.load sz43 rfl (hM.cell (k := 9) rfl (vals_at _ _ _ (owV_at3 hyh)))) rfl ?_; clear hA a; intro a hA
            refine S.valg (dj := 69) hA (by kernel_rfl) rfl (R.lenS Try.underlying43 rfl rfl) rfl ?_; clear hA a; intro a hA
            refine S.valg (dj := 69) hA (by kernel_rfl) rfl (R.ff (R.gtr rfl rfl) (by first | omega | (simp; done))) rfl ?_; clear hA a; intro a hA
            refine S.val hA (R.pickT rfl rfl) rfl ?_; clear hA a; intro a hA
            refine S.done ?_
            replace hA : St 321 [(0, _), (1, _), (5, _), (6, _), (8, _), (9, _), (10, _), (11, _), (12, _), (13, _), (75, _)] a := hA.sub ((.cons rfl (.cons rfl (.cons rfl (.cons rfl (.cons rfl (.cons rfl (.cons rfl (.cons rfl (.cons rfl (.cons rfl (.cons rfl .nil))))))))))))
            refine Ends.condF hA rfl ?_
            have hxl := hlk.len
            refine Ends.region ?_
            refine S.val hA (R.move rfl) rfl ?_; clear hA a; intro a hA
            refine S.val hA (R.move rfl) rfl ?_; clear hA a; intro a hA
            refine S.val hA (R.move rfl) rfl ?_; clear hA a; intro a hA
            refine S.call hA (R.callF Try.func50 rfl rfl rfl) rfl (ptake_ok q4 m5 nb7 ob8 n.toNat 4 3 ((n20 : Int)) (by first | omega | decide | (simp; done) | (simp; omega)) _ (hM.block (k := 2) rfl)) ?_; clear hA a
            rintro e w17 ⟨r35, rfl, hn⟩
            replace hM : Mem _ _ [pt r35 #[.pointer (some ⟨q4, 0, none⟩), .int .i64 ((n20 : Int)), .bool false, .int .i64 (-1), .int .i64 0, .int .i64 0, .int .i64 0] 131, bundle ((ms.eraseIdx n20).map (maC q4)), pt b18 #[.int .i64 x0, .int .i64 x1, .int .i64 x2] 100, pt q4 #[.pointer (some ⟨m5, 0, none⟩), .int .i64 3, .slice (some ⟨nb7, 0, none⟩) n.toNat n.toNat, .slice (some ⟨ob8, 0, none⟩) 4 4] 128, pt ob8 ((vals (gs.map owV))) 43, bundle (gs.map owC), memO m5 c6 l s op, pt wb10 #[.slice (some ⟨gH, 0, none⟩) H.length c12] 93, own 3 1 (.slice (some ⟨gH, 0, none⟩) H.length c12) H.length (H.map (Value.int .i64)), pt b13 ((vals (ms.map maV))) 98, pt b15 ((vals (hs.map owV))) 65, bundle (hs.map owC)] _ := hM.call hn; clear hn
            refine ⟨.pointer (some ⟨r35, 0, none⟩), rfl, fun a hA => ?_⟩
            refine S.val hA (R.move rfl) rfl ?_; clear hA a; intro a hA
            replace hM := hM.front (k := 6) rfl
            replace hM := hM.front (k := 4) rfl
            replace hM : Mem _ _ [pt q4 #[.pointer (some ⟨m5, 0, none⟩), .int .i64 3, .slice (some ⟨nb7, 0, none⟩) n.toNat n.toNat, .slice (some ⟨ob8, 0, none⟩) 4 4] 128, memO m5 c6 l s op, pt r35 #[.pointer (some ⟨q4, 0, none⟩), .int .i64 ((n20 : Int)), .bool false, .int .i64 (-1), .int .i64 0, .int .i64 0, .int .i64 0] 131, bundle ((ms.eraseIdx n20).map (maC q4)), pt b18 #[.int .i64 x0, .int .i64 x1, .int .i64 x2] 100, pt ob8 ((vals (gs.map owV))) 43, bundle (gs.map owC), pt wb10 #[.slice (some ⟨gH, 0, none⟩) H.length c12] 93, own 3 1 (.slice (some ⟨gH, 0, none⟩) H.length c12) H.length (H.map (Value.int .i64)), pt b13 ((vals (ms.map maV))) 98, pt b15 ((vals (hs.map owV))) 65, bundle (hs.map owC)] _ := hM
            refine S.call hA (R.callF Try.func53 rfl rfl rfl) rfl (pshared_any q4 m5 c6 nb7 n.toNat ob8 4 3 l s op hm5c6 xs (by have := hlk.mi; unfold MI at this; omega) (by omega) (by have := hlk.mi.2.2.2.2.2.1; exact ⟨this.1, this.2.1⟩) hlk.chn hlk.len (fun x hx => by have := hlk.rng x hx; omega) _ (hM.hereN 2)) ?_; clear hA a
            rintro e w18 ⟨a36, c37, rfl, hn⟩
            replace hM : Mem _ _ [own 3 1 (.slice a36 xs.length c37) xs.length (xs.map (Value.int .i64)), pt q4 #[.pointer (some ⟨m5, 0, none⟩), .int .i64 3, .slice (some ⟨nb7, 0, none⟩) n.toNat n.toNat, .slice (some ⟨ob8, 0, none⟩) 4 4] 128, memO m5 c6 l s op, pt r35 #[.pointer (some ⟨q4, 0, none⟩), .int .i64 ((n20 : Int)), .bool false, .int .i64 (-1), .int .i64 0, .int .i64 0, .int .i64 0] 131, bundle ((ms.eraseIdx n20).map (maC q4)), pt b18 #[.int .i64 x0, .int .i64 x1, .int .i64 x2] 100, pt ob8 ((vals (gs.map owV))) 43, bundle (gs.map owC), pt wb10 #[.slice (some ⟨gH, 0, none⟩) H.length c12] 93, own 3 1 (.slice (some ⟨gH, 0, none⟩) H.length c12) H.length (H.map (Value.int .i64)), pt b13 ((vals (ms.map maV))) 98, pt b15 ((vals (hs.map owV))) 65, bundle (hs.map owC)] _ := hM.callL 2 hn; clear hn
            refine ⟨.slice a36 xs.length c37, rfl, fun a hA => ?_⟩
            refine S.val hA (R.lenS Try.underlying43 rfl rfl) rfl ?_; clear hA a; intro a hA
            refine S.val hA (R.move rfl) rfl ?_; clear hA a; intro a hA
            refine S.val hA (R.move rfl) rfl ?_; clear hA a; intro a hA
            replace hM := hM.front (k := 7) rfl
            replace hM := hM.front (k := 7) rfl
            replace hM := hM.front (k := 3) rfl
            replace hM : Mem _ _ [pt q4 #[.pointer (some ⟨m5, 0, none⟩), .int .i64 3, .slice (some ⟨nb7, 0, none⟩) n.toNat n.toNat, .slice (some ⟨ob8, 0, none⟩) 4 4] 128, pt ob8 ((vals (gs.map owV))) 43, bundle (gs.map owC), own 3 1 (.slice a36 xs.length c37) xs.length (xs.map (Value.int .i64)), memO m5 c6 l s op, pt r35 #[.pointer (some ⟨q4, 0, none⟩), .int .i64 ((n20 : Int)), .bool false, .int .i64 (-1), .int .i64 0, .int .i64 0, .int .i64 0] 131, bundle ((ms.eraseIdx n20).map (maC q4)), pt b18 #[.int .i64 x0, .int .i64 x1, .int .i64 x2] 100, pt wb10 #[.slice (some ⟨gH, 0, none⟩) H.length c12] 93, own 3 1 (.slice (some ⟨gH, 0, none⟩) H.length c12) H.length (H.map (Value.int .i64)), pt b13 ((vals (ms.map maV))) 98, pt b15 ((vals (hs.map owV))) 65, bundle (hs.map owC)] _ := hM
            refine S.call hA (R.callF Try.func52 rfl rfl rfl) rfl (pown_b q4 m5 nb7 n.toNat ob8 4 3 n20 gs yg (by omega) hyg (by omega) _ (hM.hereN 3)) ?_; clear hA a
            rintro e w19 ⟨a38, c39, rfl, hn⟩
            replace hM : Mem _ _ [own 3 1 (.slice a38 yg.Y.length c39) yg.Y.length (yg.Y.map (Value.int .i64)), pt q4 #[.pointer (some ⟨m5, 0, none⟩), .int .i64 3, .slice (some ⟨nb7, 0, none⟩) n.toNat n.toNat, .slice (some ⟨ob8, 0, none⟩) 4 4] 128, pt ob8 ((vals (gs.map owV))) 43, bundle (gs.map owC), own 3 1 (.slice a36 xs.length c37) xs.length (xs.map (Value.int .i64)), memO m5 c6 l s op, pt r35 #[.pointer (some ⟨q4, 0, none⟩), .int .i64 ((n20 : Int)), .bool false, .int .i64 (-1), .int .i64 0, .int .i64 0, .int .i64 0] 131, bundle ((ms.eraseIdx n20).map (maC q4)), pt b18 #[.int .i64 x0, .int .i64 x1, .int .i64 x2] 100, pt wb10 #[.slice (some ⟨gH, 0, none⟩) H.length c12] 93, own 3 1 (.slice (some ⟨gH, 0, none⟩) H.length c12) H.length (H.map (Value.int .i64)), pt b13 ((vals (ms.map maV))) 98, pt b15 ((vals (hs.map owV))) 65, bundle (hs.map owC)] _ := hM.callL 3 hn; clear hn
            refine ⟨.slice a38 yg.Y.length c39, rfl, fun a hA => ?_⟩
            refine S.val hA (R.lenS Try.underlying43 rfl rfl) rfl ?_; clear hA a; intro a hA
            refine S.val hA (R.addI rfl rfl (r := ((xs.length : Int)) + ((yg.Y.length : Int))) rfl (by first | omega | (simp; done))) rfl ?_; clear hA a; intro a hA
            refine S.val hA (R.build (cells := #[.pointer (some ⟨r35, 0, none⟩), .bool false, .int .i64 0, .int .i64 (((xs.length : Int)) + ((yg.Y.length : Int)))]) rfl (by kernel_rfl)) rfl ?_; clear hA a; intro a hA
            refine S.box hA hM rfl rfl ?_; clear hA hM a; intro b40 w20 hb41 hM a hA
            replace hM : Mem _ _ [pt b40 #[.pointer (some ⟨r35, 0, none⟩), .bool false, .int .i64 0, .int .i64 (((xs.length : Int)) + ((yg.Y.length : Int)))] 102, own 3 1 (.slice a38 yg.Y.length c39) yg.Y.length (yg.Y.map (Value.int .i64)), pt q4 #[.pointer (some ⟨m5, 0, none⟩), .int .i64 3, .slice (some ⟨nb7, 0, none⟩) n.toNat n.toNat, .slice (some ⟨ob8, 0, none⟩) 4 4] 128, pt ob8 ((vals (gs.map owV))) 43, bundle (gs.map owC), own 3 1 (.slice a36 xs.length c37) xs.length (xs.map (Value.int .i64)), memO m5 c6 l s op, pt r35 #[.pointer (some ⟨q4, 0, none⟩), .int .i64 ((n20 : Int)), .bool false, .int .i64 (-1), .int .i64 0, .int .i64 0, .int .i64 0] 131, bundle ((ms.eraseIdx n20).map (maC q4)), pt b18 #[.int .i64 x0, .int .i64 x1, .int .i64 x2] 100, pt wb10 #[.slice (some ⟨gH, 0, none⟩) H.length c12] 93, own 3 1 (.slice (some ⟨gH, 0, none⟩) H.length c12) H.length (H.map (Value.int .i64)), pt b13 ((vals (ms.map maV))) 98, pt b15 ((vals (hs.map owV))) 65, bundle (hs.map owC)] _ := hM
            refine S.val hA (R.indexAddrA (q := n20) ar98 rfl rfl (by first | omega | (simp; done)) (by first | omega | (simp; done))) rfl ?_; clear hA a; intro a hA
            refine S.store (k := 12) hA hM sz97 rfl rfl rfl rfl (vals_get _ _ (by first | omega | (rw [List.length_map]; omega))) ?_; clear hM
            intro w21 hM
            rw [vals_set] at hM
            replace hM : Mem _ _ [pt b40 #[.pointer (some ⟨r35, 0, none⟩), .bool false, .int .i64 0, .int .i64 (((xs.length : Int)) + ((yg.Y.length : Int)))] 102, own 3 1 (.slice a38 yg.Y.length c39) yg.Y.length (yg.Y.map (Value.int .i64)), pt q4 #[.pointer (some ⟨m5, 0, none⟩), .int .i64 3, .slice (some ⟨nb7, 0, none⟩) n.toNat n.toNat, .slice (some ⟨ob8, 0, none⟩) 4 4] 128, pt ob8 ((vals (gs.map owV))) 43, bundle (gs.map owC), own 3 1 (.slice a36 xs.length c37) xs.length (xs.map (Value.int .i64)), memO m5 c6 l s op, pt r35 #[.pointer (some ⟨q4, 0, none⟩), .int .i64 ((n20 : Int)), .bool false, .int .i64 (-1), .int .i64 0, .int .i64 0, .int .i64 0] 131, bundle ((ms.eraseIdx n20).map (maC q4)), pt b18 #[.int .i64 x0, .int .i64 x1, .int .i64 x2] 100, pt wb10 #[.slice (some ⟨gH, 0, none⟩) H.length c12] 93, own 3 1 (.slice (some ⟨gH, 0, none⟩) H.length c12) H.length (H.map (Value.int .i64)), pt b13 ((vals (((ms.map maV)).set n20 (.pointer (some ⟨b40, 0, none⟩))))) 98, pt b15 ((vals (hs.map owV))) 65, bundle (hs.map owC)] _ := hM
            refine S.done ?_
            replace hA : St 321 [(0, _), (1, _), (5, _), (6, _), (8, _), (9, _), (10, _), (11, _), (13, _)] a := hA.sub ((.cons rfl (.cons rfl (.cons rfl (.cons rfl (.cons rfl (.cons rfl (.cons rfl (.cons rfl (.cons rfl .nil))))))))))
            refine Ends.exit rfl ?_
            replace hA : St 321 [(0, _), (1, _), (5, _), (6, _), (8, _), (9, _), (10, _), (11, _)] a := hA.sub ((.cons rfl (.cons rfl (.cons rfl (.cons rfl (.cons rfl (.cons rfl (.cons rfl (.cons rfl .nil)))))))))
            refine Ends.region ?_
            refine S.val hA (R.move rfl) rfl ?_; clear hA a; intro a hA
            refine S.val hA (R.addI rfl rfl (r := ((i : Int)) + 1) rfl (by first | omega | (simp; done))) rfl ?_; clear hA a; intro a hA
            refine S.val hA (R.assign rfl) rfl ?_; clear hA a; intro a hA
            refine S.done ?_
            replace hA : St 321 [(0, _), (1, _), (5, _), (6, _), (8, _), (9, _), (10, _), (11, _)] a := hA.sub ((.cons rfl (.cons rfl (.cons rfl (.cons rfl (.cons rfl (.cons rfl (.cons rfl (.cons rfl .nil)))))))))
            replace hM := hM.front (k := 8) rfl
            replace hM := hM.front (k := 8) rfl
            replace hM := hM.front (k := 2) rfl
            replace hM : Mem _ _ [pt b40 #[.pointer (some ⟨r35, 0, none⟩), .bool false, .int .i64 0, .int .i64 (((xs.length : Int)) + ((yg.Y.length : Int)))] 102, pt r35 #[.pointer (some ⟨q4, 0, none⟩), .int .i64 ((n20 : Int)), .bool false, .int .i64 (-1), .int .i64 0, .int .i64 0, .int .i64 0] 131, bundle ((ms.eraseIdx n20).map (maC q4)), own 3 1 (.slice a38 yg.Y.length c39) yg.Y.length (yg.Y.map (Value.int .i64)), pt q4 #[.pointer (some ⟨m5, 0, none⟩), .int .i64 3, .slice (some ⟨nb7, 0, none⟩) n.toNat n.toNat, .slice (some ⟨ob8, 0, none⟩) 4 4] 128, pt ob8 ((vals (gs.map owV))) 43, bundle (gs.map owC), own 3 1 (.slice a36 xs.length c37) xs.length (xs.map (Value.int .i64)), memO m5 c6 l s op, pt b18 #[.int .i64 x0, .int .i64 x1, .int .i64 x2] 100, pt wb10 #[.slice (some ⟨gH, 0, none⟩) H.length c12] 93, own 3 1 (.slice (some ⟨gH, 0, none⟩) H.length c12) H.length (H.map (Value.int .i64)), pt b13 ((vals (((ms.map maV)).set n20 (.pointer (some ⟨b40, 0, none⟩))))) 98, pt b15 ((vals (hs.map owV))) 65, bundle (hs.map owC)] _ := hM
            replace hM := (hM.pack (cs := [pt b40 #[.pointer (some ⟨r35, 0, none⟩), .bool false, .int .i64 0, .int .i64 (((xs.length : Int)) + ((yg.Y.length : Int)))] 102, pt r35 #[.pointer (some ⟨q4, 0, none⟩), .int .i64 ((n20 : Int)), .bool false, .int .i64 (-1), .int .i64 0, .int .i64 0, .int .i64 0] 131])).closeB (f := maC q4) (y := (some ⟨b40, r35, ⟨false, -1, 0, 0, 0⟩, false, 0, ((xs.length : Int)) + ((yg.Y.length : Int)), (n20 : Int)⟩ : MS)) hmj
            have hmp : (ms.map maV).set n20 (.pointer (some ⟨b40, 0, none⟩)) = (ms.set n20 (some ⟨b40, r35, ⟨false, -1, 0, 0, 0⟩, false, 0, ((xs.length : Int)) + ((yg.Y.length : Int)), (n20 : Int)⟩)).map maV := by rw [List.map_set]; rfl
            rw [hmp] at hM
            have hts : tsOf (ms.set n20 (some ⟨b40, r35, ⟨false, -1, 0, 0, 0⟩, false, 0, ((xs.length : Int)) + ((yg.Y.length : Int)), (n20 : Int)⟩)) = (tsOf ms).set n20 (some ⟨false, -1, 0, 0, 0⟩) := tsOf_set _ _ _
            replace hM := hM.front (k := 12) rfl
            replace hM := hM.front (k := 12) rfl
            replace hM := hM.front (k := 2) rfl
            replace hM := hM.front (k := 12) rfl
            replace hM := hM.front (k := 12) rfl
            replace hM := hM.front (k := 12) rfl
            replace hM := hM.front (k := 11) rfl
            replace hM := hM.front (k := 10) rfl
            replace hM := hM.front (k := 10) rfl
            replace hM := hM.front (k := 10) rfl
            replace hM : Mem _ _ [pt q4 #[.pointer (some ⟨m5, 0, none⟩), .int .i64 3, .slice (some ⟨nb7, 0, none⟩) n.toNat n.toNat, .slice (some ⟨ob8, 0, none⟩) 4 4] 128, pt ob8 ((vals (gs.map owV))) 43, bundle (gs.map owC), memO m5 c6 l s op, pt wb10 #[.slice (some ⟨gH, 0, none⟩) H.length c12] 93, own 3 1 (.slice (some ⟨gH, 0, none⟩) H.length c12) H.length (H.map (Value.int .i64)), pt b13 ((vals ((ms.set n20 (some ⟨b40, r35, ⟨false, -1, 0, 0, 0⟩, false, 0, ((xs.length : Int)) + ((yg.Y.length : Int)), (n20 : Int)⟩)).map maV))) 98, bundle ((ms.set n20 (some ⟨b40, r35, ⟨false, -1, 0, 0, 0⟩, false, 0, ((xs.length : Int)) + ((yg.Y.length : Int)), (n20 : Int)⟩)).map (maC q4)), pt b15 ((vals (hs.map owV))) 65, bundle (hs.map owC), own 3 1 (.slice a38 yg.Y.length c39) yg.Y.length (yg.Y.map (Value.int .i64)), own 3 1 (.slice a36 xs.length c37) xs.length (xs.map (Value.int .i64)), pt b18 #[.int .i64 x0, .int .i64 x1, .int .i64 x2] 100] _ := hM
            replace hM : Mem _ _ [pt q4 #[.pointer (some ⟨m5, 0, none⟩), .int .i64 3, .slice (some ⟨nb7, 0, none⟩) n.toNat n.toNat, .slice (some ⟨ob8, 0, none⟩) 4 4] 128, pt ob8 ((vals (gs.map owV))) 43, bundle (gs.map owC), memO m5 c6 l s op, pt wb10 #[.slice (some ⟨gH, 0, none⟩) H.length c12] 93, own 3 1 (.slice (some ⟨gH, 0, none⟩) H.length c12) H.length (H.map (Value.int .i64)), pt b13 ((vals ((ms.set n20 (some ⟨b40, r35, ⟨false, -1, 0, 0, 0⟩, false, 0, ((xs.length : Int)) + ((yg.Y.length : Int)), (n20 : Int)⟩)).map maV))) 98, bundle ((ms.set n20 (some ⟨b40, r35, ⟨false, -1, 0, 0, 0⟩, false, 0, ((xs.length : Int)) + ((yg.Y.length : Int)), (n20 : Int)⟩)).map (maC q4)), pt b15 ((vals (hs.map owV))) 65, bundle (hs.map owC)] _ := hM.firstN 10
            exact hNext ((i + 1, V, l, xs, H, s, op, gs, (ms.set n20 (some ⟨b40, r35, ⟨false, -1, 0, 0, 0⟩, false, 0, ((xs.length : Int)) + ((yg.Y.length : Int)), (n20 : Int)⟩)), hs)) _ _ ((by show 300 - (i + 1) < 300 - i; omega)) ⟨hA.sub ((.cons rfl (.cons rfl (.cons rfl (.cons rfl (.cons rfl (.cons rfl (.cons rfl (.cons rfl .nil))))))))), hM, (by omega), (by rw [hts]; exact gi_begin (k := n20) hg (acti_take 3 n l H n20)), hgl, (by rw [List.length_set]; exact hml), hhl, (mok_set hmok (fun y hy => by obtain rfl := Option.some.inj hy; exact ⟨rfl, rfl, (fun h => nomatch h), (fun _ => rfl)⟩)), (by rw [hts]; exact hold_act hhold (fun t ht hg => by obtain rfl := Option.some.inj ht; cases hg)), (by omega), (by omega)⟩
        ·
          refine Ends.region ?_
          refine S.val hA (R.fieldAddr (q := 1) fi100_1 rfl rfl rfl) rfl ?_; clear hA a; intro a hA
          refine S.val hA (R.load sz3 rfl (hM.cell (k := 1) rfl rfl)) rfl ?_; clear hA a; intro a hA
          refine S.val hA (R.ff (R.eql rfl rfl) (by first | omega | (simp; done))) rfl ?_; clear hA a; intro a hA
          refine S.val hA (R.move rfl) rfl ?_; clear hA a; intro a hA
          refine S.no (dj := 69) hA (by kernel_rfl) rfl rfl rfl ?_; clear hA a; intro a hA
          refine S.no (dj := 69) hA (by kernel_rfl) rfl rfl rfl ?_; clear hA a; intro a hA
          refine S.no (dj := 69) hA (by kernel_rfl) rfl rfl rfl ?_; clear hA a; intro a hA
          refine S.no (dj := 69) hA (by kernel_rfl) rfl rfl rfl ?_; clear hA a; intro a hA
          refine S.no (dj := 69) hA (by kernel_rfl) rfl rfl rfl ?_; clear hA a; intro a hA
          refine S.val hA (R.pickF rfl rfl) rfl ?_; clear hA a; intro a hA
          refine S.done ?_
          replace hA : St 321 [(0, _), (1, _), (5, _), (6, _), (8, _), (9, _), (10, _), (11, _), (12, _), (13, _), (75, _)] a := hA.sub ((.cons rfl (.cons rfl (.cons rfl (.cons rfl (.cons rfl (.cons rfl (.cons rfl (.cons rfl (.cons rfl (.cons rfl (.cons rfl .nil))))))))))))
          refine Ends.condF hA rfl ?_
          have hxl := hlk.len
          refine Ends.region ?_
          refine S.val hA (R.move rfl) rfl ?_; clear hA a; intro a hA
          refine S.val hA (R.move rfl) rfl ?_; clear hA a; intro a hA
          refine S.val hA (R.move rfl) rfl ?_; clear hA a; intro a hA
          refine S.call hA (R.callF Try.func50 rfl rfl rfl) rfl (ptake_ok q4 m5 nb7 ob8 n.toNat 4 3 ((n20 : Int)) (by first | omega | decide | (simp; done) | (simp; omega)) _ (hM.block (k := 2) rfl)) ?_; clear hA a
          rintro e w22 ⟨r42, rfl, hn⟩
          replace hM : Mem _ _ [pt r42 #[.pointer (some ⟨q4, 0, none⟩), .int .i64 ((n20 : Int)), .bool false, .int .i64 (-1), .int .i64 0, .int .i64 0, .int .i64 0] 131, bundle ((ms.eraseIdx n20).map (maC q4)), pt b18 #[.int .i64 x0, .int .i64 x1, .int .i64 x2] 100, pt q4 #[.pointer (some ⟨m5, 0, none⟩), .int .i64 3, .slice (some ⟨nb7, 0, none⟩) n.toNat n.toNat, .slice (some ⟨ob8, 0, none⟩) 4 4] 128, pt ob8 ((vals (gs.map owV))) 43, bundle (gs.map owC), memO m5 c6 l s op, pt wb10 #[.slice (some ⟨gH, 0, none⟩) H.length c12] 93, own 3 1 (.slice (some ⟨gH, 0, none⟩) H.length c12) H.length (H.map (Value.int .i64)), pt b13 ((vals (ms.map maV))) 98, pt b15 ((vals (hs.map owV))) 65, bundle (hs.map owC)] _ := hM.call hn; clear hn
          refine ⟨.pointer (some ⟨r42, 0, none⟩), rfl, fun a hA => ?_⟩
          refine S.val hA (R.move rfl) rfl ?_; clear hA a; intro a hA
          replace hM := hM.front (k := 6) rfl
          replace hM := hM.front (k := 4) rfl
          replace hM : Mem _ _ [pt q4 #[.pointer (some ⟨m5, 0, none⟩), .int .i64 3, .slice (some ⟨nb7, 0, none⟩) n.toNat n.toNat, .slice (some ⟨ob8, 0, none⟩) 4 4] 128, memO m5 c6 l s op, pt r42 #[.pointer (some ⟨q4, 0, none⟩), .int .i64 ((n20 : Int)), .bool false, .int .i64 (-1), .int .i64 0, .int .i64 0, .int .i64 0] 131, bundle ((ms.eraseIdx n20).map (maC q4)), pt b18 #[.int .i64 x0, .int .i64 x1, .int .i64 x2] 100, pt ob8 ((vals (gs.map owV))) 43, bundle (gs.map owC), pt wb10 #[.slice (some ⟨gH, 0, none⟩) H.length c12] 93, own 3 1 (.slice (some ⟨gH, 0, none⟩) H.length c12) H.length (H.map (Value.int .i64)), pt b13 ((vals (ms.map maV))) 98, pt b15 ((vals (hs.map owV))) 65, bundle (hs.map owC)] _ := hM
          refine S.call hA (R.callF Try.func53 rfl rfl rfl) rfl (pshared_any q4 m5 c6 nb7 n.toNat ob8 4 3 l s op hm5c6 xs (by have := hlk.mi; unfold MI at this; omega) (by omega) (by have := hlk.mi.2.2.2.2.2.1; exact ⟨this.1, this.2.1⟩) hlk.chn hlk.len (fun x hx => by have := hlk.rng x hx; omega) _ (hM.hereN 2)) ?_; clear hA a
          rintro e w23 ⟨a43, c44, rfl, hn⟩
          replace hM : Mem _ _ [own 3 1 (.slice a43 xs.length c44) xs.length (xs.map (Value.int .i64)), pt q4 #[.pointer (some ⟨m5, 0, none⟩), .int .i64 3, .slice (some ⟨nb7, 0, none⟩) n.toNat n.toNat, .slice (some ⟨ob8, 0, none⟩) 4 4] 128, memO m5 c6 l s op, pt r42 #[.pointer (some ⟨q4, 0, none⟩), .int .i64 ((n20 : Int)), .bool false, .int .i64 (-1), .int .i64 0, .int .i64 0, .int .i64 0] 131, bundle ((ms.eraseIdx n20).map (maC q4)), pt b18 #[.int .i64 x0, .int .i64 x1, .int .i64 x2] 100, pt ob8 ((vals (gs.map owV))) 43, bundle (gs.map owC), pt wb10 #[.slice (some ⟨gH, 0, none⟩) H.length c12] 93, own 3 1 (.slice (some ⟨gH, 0, none⟩) H.length c12) H.length (H.map (Value.int .i64)), pt b13 ((vals (ms.map maV))) 98, pt b15 ((vals (hs.map owV))) 65, bundle (hs.map owC)] _ := hM.callL 2 hn; clear hn
          refine ⟨.slice a43 xs.length c44, rfl, fun a hA => ?_⟩
          refine S.val hA (R.lenS Try.underlying43 rfl rfl) rfl ?_; clear hA a; intro a hA
          refine S.val hA (R.move rfl) rfl ?_; clear hA a; intro a hA
          refine S.val hA (R.move rfl) rfl ?_; clear hA a; intro a hA
          replace hM := hM.front (k := 7) rfl
          replace hM := hM.front (k := 7) rfl
          replace hM := hM.front (k := 3) rfl
          replace hM : Mem _ _ [pt q4 #[.pointer (some ⟨m5, 0, none⟩), .int .i64 3, .slice (some ⟨nb7, 0, none⟩) n.toNat n.toNat, .slice (some ⟨ob8, 0, none⟩) 4 4] 128, pt ob8 ((vals (gs.map owV))) 43, bundle (gs.map owC), own 3 1 (.slice a43 xs.length c44) xs.length (xs.map (Value.int .i64)), memO m5 c6 l s op, pt r42 #[.pointer (some ⟨q4, 0, none⟩), .int .i64 ((n20 : Int)), .bool false, .int .i64 (-1), .int .i64 0, .int .i64 0, .int .i64 0] 131, bundle ((ms.eraseIdx n20).map (maC q4)), pt b18 #[.int .i64 x0, .int .i64 x1, .int .i64 x2] 100, pt wb10 #[.slice (some ⟨gH, 0, none⟩) H.length c12] 93, own 3 1 (.slice (some ⟨gH, 0, none⟩) H.length c12) H.length (H.map (Value.int .i64)), pt b13 ((vals (ms.map maV))) 98, pt b15 ((vals (hs.map owV))) 65, bundle (hs.map owC)] _ := hM
          refine S.call hA (R.callF Try.func52 rfl rfl rfl) rfl (pown_b q4 m5 nb7 n.toNat ob8 4 3 n20 gs yg (by omega) hyg (by omega) _ (hM.hereN 3)) ?_; clear hA a
          rintro e w24 ⟨a45, c46, rfl, hn⟩
          replace hM : Mem _ _ [own 3 1 (.slice a45 yg.Y.length c46) yg.Y.length (yg.Y.map (Value.int .i64)), pt q4 #[.pointer (some ⟨m5, 0, none⟩), .int .i64 3, .slice (some ⟨nb7, 0, none⟩) n.toNat n.toNat, .slice (some ⟨ob8, 0, none⟩) 4 4] 128, pt ob8 ((vals (gs.map owV))) 43, bundle (gs.map owC), own 3 1 (.slice a43 xs.length c44) xs.length (xs.map (Value.int .i64)), memO m5 c6 l s op, pt r42 #[.pointer (some ⟨q4, 0, none⟩), .int .i64 ((n20 : Int)), .bool false, .int .i64 (-1), .int .i64 0, .int .i64 0, .int .i64 0] 131, bundle ((ms.eraseIdx n20).map (maC q4)), pt b18 #[.int .i64 x0, .int .i64 x1, .int .i64 x2] 100, pt wb10 #[.slice (some ⟨gH, 0, none⟩) H.length c12] 93, own 3 1 (.slice (some ⟨gH, 0, none⟩) H.length c12) H.length (H.map (Value.int .i64)), pt b13 ((vals (ms.map maV))) 98, pt b15 ((vals (hs.map owV))) 65, bundle (hs.map owC)] _ := hM.callL 3 hn; clear hn
          refine ⟨.slice a45 yg.Y.length c46, rfl, fun a hA => ?_⟩
          refine S.val hA (R.lenS Try.underlying43 rfl rfl) rfl ?_; clear hA a; intro a hA
          refine S.val hA (R.addI rfl rfl (r := ((xs.length : Int)) + ((yg.Y.length : Int))) rfl (by first | omega | (simp; done))) rfl ?_; clear hA a; intro a hA
          refine S.val hA (R.build (cells := #[.pointer (some ⟨r42, 0, none⟩), .bool false, .int .i64 0, .int .i64 (((xs.length : Int)) + ((yg.Y.length : Int)))]) rfl (by kernel_rfl)) rfl ?_; clear hA a; intro a hA
          refine S.box hA hM rfl rfl ?_; clear hA hM a; intro b47 w25 hb48 hM a hA
          replace hM : Mem _ _ [pt b47 #[.pointer (some ⟨r42, 0, none⟩), .bool false, .int .i64 0, .int .i64 (((xs.length : Int)) + ((yg.Y.length : Int)))] 102, own 3 1 (.slice a45 yg.Y.length c46) yg.Y.length (yg.Y.map (Value.int .i64)), pt q4 #[.pointer (some ⟨m5, 0, none⟩), .int .i64 3, .slice (some ⟨nb7, 0, none⟩) n.toNat n.toNat, .slice (some ⟨ob8, 0, none⟩) 4 4] 128, pt ob8 ((vals (gs.map owV))) 43, bundle (gs.map owC), own 3 1 (.slice a43 xs.length c44) xs.length (xs.map (Value.int .i64)), memO m5 c6 l s op, pt r42 #[.pointer (some ⟨q4, 0, none⟩), .int .i64 ((n20 : Int)), .bool false, .int .i64 (-1), .int .i64 0, .int .i64 0, .int .i64 0] 131, bundle ((ms.eraseIdx n20).map (maC q4)), pt b18 #[.int .i64 x0, .int .i64 x1, .int .i64 x2] 100, pt wb10 #[.slice (some ⟨gH, 0, none⟩) H.length c12] 93, own 3 1 (.slice (some ⟨gH, 0, none⟩) H.length c12) H.length (H.map (Value.int .i64)), pt b13 ((vals (ms.map maV))) 98, pt b15 ((vals (hs.map owV))) 65, bundle (hs.map owC)] _ := hM
          refine S.val hA (R.indexAddrA (q := n20) ar98 rfl rfl (by first | omega | (simp; done)) (by first | omega | (simp; done))) rfl ?_; clear hA a; intro a hA
          refine S.store (k := 12) hA hM sz97 rfl rfl rfl rfl (vals_get _ _ (by first | omega | (rw [List.length_map]; omega))) ?_; clear hM
          intro w26 hM
          rw [vals_set] at hM
          replace hM : Mem _ _ [pt b47 #[.pointer (some ⟨r42, 0, none⟩), .bool false, .int .i64 0, .int .i64 (((xs.length : Int)) + ((yg.Y.length : Int)))] 102, own 3 1 (.slice a45 yg.Y.length c46) yg.Y.length (yg.Y.map (Value.int .i64)), pt q4 #[.pointer (some ⟨m5, 0, none⟩), .int .i64 3, .slice (some ⟨nb7, 0, none⟩) n.toNat n.toNat, .slice (some ⟨ob8, 0, none⟩) 4 4] 128, pt ob8 ((vals (gs.map owV))) 43, bundle (gs.map owC), own 3 1 (.slice a43 xs.length c44) xs.length (xs.map (Value.int .i64)), memO m5 c6 l s op, pt r42 #[.pointer (some ⟨q4, 0, none⟩), .int .i64 ((n20 : Int)), .bool false, .int .i64 (-1), .int .i64 0, .int .i64 0, .int .i64 0] 131, bundle ((ms.eraseIdx n20).map (maC q4)), pt b18 #[.int .i64 x0, .int .i64 x1, .int .i64 x2] 100, pt wb10 #[.slice (some ⟨gH, 0, none⟩) H.length c12] 93, own 3 1 (.slice (some ⟨gH, 0, none⟩) H.length c12) H.length (H.map (Value.int .i64)), pt b13 ((vals (((ms.map maV)).set n20 (.pointer (some ⟨b47, 0, none⟩))))) 98, pt b15 ((vals (hs.map owV))) 65, bundle (hs.map owC)] _ := hM
          refine S.done ?_
          replace hA : St 321 [(0, _), (1, _), (5, _), (6, _), (8, _), (9, _), (10, _), (11, _), (13, _)] a := hA.sub ((.cons rfl (.cons rfl (.cons rfl (.cons rfl (.cons rfl (.cons rfl (.cons rfl (.cons rfl (.cons rfl .nil))))))))))
          refine Ends.exit rfl ?_
          replace hA : St 321 [(0, _), (1, _), (5, _), (6, _), (8, _), (9, _), (10, _), (11, _)] a := hA.sub ((.cons rfl (.cons rfl (.cons rfl (.cons rfl (.cons rfl (.cons rfl (.cons rfl (.cons rfl .nil)))))))))
          refine Ends.region ?_
          refine S.val hA (R.move rfl) rfl ?_; clear hA a; intro a hA
          refine S.val hA (R.addI rfl rfl (r := ((i : Int)) + 1) rfl (by first | omega | (simp; done))) rfl ?_; clear hA a; intro a hA
          refine S.val hA (R.assign rfl) rfl ?_; clear hA a; intro a hA
          refine S.done ?_
          replace hA : St 321 [(0, _), (1, _), (5, _), (6, _), (8, _), (9, _), (10, _), (11, _)] a := hA.sub ((.cons rfl (.cons rfl (.cons rfl (.cons rfl (.cons rfl (.cons rfl (.cons rfl (.cons rfl .nil)))))))))
          replace hM := hM.front (k := 8) rfl
          replace hM := hM.front (k := 8) rfl
          replace hM := hM.front (k := 2) rfl
          replace hM : Mem _ _ [pt b47 #[.pointer (some ⟨r42, 0, none⟩), .bool false, .int .i64 0, .int .i64 (((xs.length : Int)) + ((yg.Y.length : Int)))] 102, pt r42 #[.pointer (some ⟨q4, 0, none⟩), .int .i64 ((n20 : Int)), .bool false, .int .i64 (-1), .int .i64 0, .int .i64 0, .int .i64 0] 131, bundle ((ms.eraseIdx n20).map (maC q4)), own 3 1 (.slice a45 yg.Y.length c46) yg.Y.length (yg.Y.map (Value.int .i64)), pt q4 #[.pointer (some ⟨m5, 0, none⟩), .int .i64 3, .slice (some ⟨nb7, 0, none⟩) n.toNat n.toNat, .slice (some ⟨ob8, 0, none⟩) 4 4] 128, pt ob8 ((vals (gs.map owV))) 43, bundle (gs.map owC), own 3 1 (.slice a43 xs.length c44) xs.length (xs.map (Value.int .i64)), memO m5 c6 l s op, pt b18 #[.int .i64 x0, .int .i64 x1, .int .i64 x2] 100, pt wb10 #[.slice (some ⟨gH, 0, none⟩) H.length c12] 93, own 3 1 (.slice (some ⟨gH, 0, none⟩) H.length c12) H.length (H.map (Value.int .i64)), pt b13 ((vals (((ms.map maV)).set n20 (.pointer (some ⟨b47, 0, none⟩))))) 98, pt b15 ((vals (hs.map owV))) 65, bundle (hs.map owC)] _ := hM
          replace hM := (hM.pack (cs := [pt b47 #[.pointer (some ⟨r42, 0, none⟩), .bool false, .int .i64 0, .int .i64 (((xs.length : Int)) + ((yg.Y.length : Int)))] 102, pt r42 #[.pointer (some ⟨q4, 0, none⟩), .int .i64 ((n20 : Int)), .bool false, .int .i64 (-1), .int .i64 0, .int .i64 0, .int .i64 0] 131])).closeB (f := maC q4) (y := (some ⟨b47, r42, ⟨false, -1, 0, 0, 0⟩, false, 0, ((xs.length : Int)) + ((yg.Y.length : Int)), (n20 : Int)⟩ : MS)) hmj
          have hmp : (ms.map maV).set n20 (.pointer (some ⟨b47, 0, none⟩)) = (ms.set n20 (some ⟨b47, r42, ⟨false, -1, 0, 0, 0⟩, false, 0, ((xs.length : Int)) + ((yg.Y.length : Int)), (n20 : Int)⟩)).map maV := by rw [List.map_set]; rfl
          rw [hmp] at hM
          have hts : tsOf (ms.set n20 (some ⟨b47, r42, ⟨false, -1, 0, 0, 0⟩, false, 0, ((xs.length : Int)) + ((yg.Y.length : Int)), (n20 : Int)⟩)) = (tsOf ms).set n20 (some ⟨false, -1, 0, 0, 0⟩) := tsOf_set _ _ _
          replace hM := hM.front (k := 12) rfl
          replace hM := hM.front (k := 12) rfl
          replace hM := hM.front (k := 2) rfl
          replace hM := hM.front (k := 12) rfl
          replace hM := hM.front (k := 12) rfl
          replace hM := hM.front (k := 12) rfl
          replace hM := hM.front (k := 11) rfl
          replace hM := hM.front (k := 10) rfl
          replace hM := hM.front (k := 10) rfl
          replace hM := hM.front (k := 10) rfl
          replace hM : Mem _ _ [pt q4 #[.pointer (some ⟨m5, 0, none⟩), .int .i64 3, .slice (some ⟨nb7, 0, none⟩) n.toNat n.toNat, .slice (some ⟨ob8, 0, none⟩) 4 4] 128, pt ob8 ((vals (gs.map owV))) 43, bundle (gs.map owC), memO m5 c6 l s op, pt wb10 #[.slice (some ⟨gH, 0, none⟩) H.length c12] 93, own 3 1 (.slice (some ⟨gH, 0, none⟩) H.length c12) H.length (H.map (Value.int .i64)), pt b13 ((vals ((ms.set n20 (some ⟨b47, r42, ⟨false, -1, 0, 0, 0⟩, false, 0, ((xs.length : Int)) + ((yg.Y.length : Int)), (n20 : Int)⟩)).map maV))) 98, bundle ((ms.set n20 (some ⟨b47, r42, ⟨false, -1, 0, 0, 0⟩, false, 0, ((xs.length : Int)) + ((yg.Y.length : Int)), (n20 : Int)⟩)).map (maC q4)), pt b15 ((vals (hs.map owV))) 65, bundle (hs.map owC), own 3 1 (.slice a45 yg.Y.length c46) yg.Y.length (yg.Y.map (Value.int .i64)), own 3 1 (.slice a43 xs.length c44) xs.length (xs.map (Value.int .i64)), pt b18 #[.int .i64 x0, .int .i64 x1, .int .i64 x2] 100] _ := hM
          replace hM : Mem _ _ [pt q4 #[.pointer (some ⟨m5, 0, none⟩), .int .i64 3, .slice (some ⟨nb7, 0, none⟩) n.toNat n.toNat, .slice (some ⟨ob8, 0, none⟩) 4 4] 128, pt ob8 ((vals (gs.map owV))) 43, bundle (gs.map owC), memO m5 c6 l s op, pt wb10 #[.slice (some ⟨gH, 0, none⟩) H.length c12] 93, own 3 1 (.slice (some ⟨gH, 0, none⟩) H.length c12) H.length (H.map (Value.int .i64)), pt b13 ((vals ((ms.set n20 (some ⟨b47, r42, ⟨false, -1, 0, 0, 0⟩, false, 0, ((xs.length : Int)) + ((yg.Y.length : Int)), (n20 : Int)⟩)).map maV))) 98, bundle ((ms.set n20 (some ⟨b47, r42, ⟨false, -1, 0, 0, 0⟩, false, 0, ((xs.length : Int)) + ((yg.Y.length : Int)), (n20 : Int)⟩)).map (maC q4)), pt b15 ((vals (hs.map owV))) 65, bundle (hs.map owC)] _ := hM.firstN 10
          exact hNext ((i + 1, V, l, xs, H, s, op, gs, (ms.set n20 (some ⟨b47, r42, ⟨false, -1, 0, 0, 0⟩, false, 0, ((xs.length : Int)) + ((yg.Y.length : Int)), (n20 : Int)⟩)), hs)) _ _ ((by show 300 - (i + 1) < 300 - i; omega)) ⟨hA.sub ((.cons rfl (.cons rfl (.cons rfl (.cons rfl (.cons rfl (.cons rfl (.cons rfl (.cons rfl .nil))))))))), hM, (by omega), (by rw [hts]; exact gi_begin (k := n20) hg (acti_take 3 n l H n20)), hgl, (by rw [List.length_set]; exact hml), hhl, (mok_set hmok (fun y hy => by obtain rfl := Option.some.inj hy; exact ⟨rfl, rfl, (fun h => nomatch h), (fun _ => rfl)⟩)), (by rw [hts]; exact hold_act hhold (fun t ht hg => by obtain rfl := Option.some.inj ht; cases hg)), (by omega), (by omega)⟩
      ·
        replace hM := hM.front (k := 8) rfl
        replace hM : Mem _ _ [bundle (ms.map (maC q4)), pt b18 #[.int .i64 x0, .int .i64 x1, .int .i64 x2] 100, pt q4 #[.pointer (some ⟨m5, 0, none⟩), .int .i64 3, .slice (some ⟨nb7, 0, none⟩) n.toNat n.toNat, .slice (some ⟨ob8, 0, none⟩) 4 4] 128, pt ob8 ((vals (gs.map owV))) 43, bundle (gs.map owC), memO m5 c6 l s op, pt wb10 #[.slice (some ⟨gH, 0, none⟩) H.length c12] 93, own 3 1 (.slice (some ⟨gH, 0, none⟩) H.length c12) H.length (H.map (Value.int .i64)), pt b13 ((vals (ms.map maV))) 98, pt b15 ((vals (hs.map owV))) 65, bundle (hs.map owC)] _ := hM
        obtain ⟨yg, hyg⟩ := ows_some (gs := gs) (k := n20) (by omega)
        have hyl := hg.own yg.Y (List.mem_map.2 ⟨yg, List.mem_of_getElem? hyg, rfl⟩)
        have hlk := hg.look
        obtain ⟨⟨Yh, ah, ch⟩, hyh⟩ := ows_some (gs := hs) (k := n20) (by omega)
        have hYl := hold_len hhold (by omega) (k := n20) (Y := Yh) (by rw [List.getElem?_map, hyh]; rfl)
        obtain ⟨t, hmj⟩ := ma_some (by omega) hs23
        obtain ⟨hk1, hk2, hk3, hk4⟩ := hmok _ _ hmj
        replace hM : Mem _ _ [pt t.b1 #[.pointer (some ⟨t.b2, 0, none⟩), .bool t.gv, .int .i64 t.sl, .int .i64 t.fr] 102, pt t.b2 #[.pointer (some ⟨q4, 0, none⟩), .int .i64 t.wr, .bool t.t.give, .int .i64 t.t.slot, .int .i64 t.t.ph, .int .i64 t.t.top, .int .i64 t.t.next] 131, bundle ((ms.eraseIdx n20).map (maC q4)), pt b18 #[.int .i64 x0, .int .i64 x1, .int .i64 x2] 100, pt q4 #[.pointer (some ⟨m5, 0, none⟩), .int .i64 3, .slice (some ⟨nb7, 0, none⟩) n.toNat n.toNat, .slice (some ⟨ob8, 0, none⟩) 4 4] 128, pt ob8 ((vals (gs.map owV))) 43, bundle (gs.map owC), memO m5 c6 l s op, pt wb10 #[.slice (some ⟨gH, 0, none⟩) H.length c12] 93, own 3 1 (.slice (some ⟨gH, 0, none⟩) H.length c12) H.length (H.map (Value.int .i64)), pt b13 ((vals (ms.map maV))) 98, pt b15 ((vals (hs.map owV))) 65, bundle (hs.map owC)] _ := (hM.openB hmj).unpack
        rw [hk1] at hM
        refine Ends.region ?_
        refine S.val hA (R.move rfl) rfl ?_; clear hA a; intro a hA
        refine S.val hA (R.indexAddrA (q := n20) ar98 rfl rfl (by first | omega | (simp; done)) (by first | omega | (simp; done))) rfl ?_; clear hA a; intro a hA
        refine S.val hA (R.load sz97 rfl (hM.cell (k := 10) rfl (vals_at _ _ _ (maV_at hmj)))) rfl ?_; clear hA a; intro a hA
        refine S.val hA (R.eqlNil Try.underlying97 rfl rfl) rfl ?_; clear hA a; intro a hA
        refine S.done ?_
        replace hA : St 321 [(0, _), (1, _), (5, _), (6, _), (8, _), (9, _), (10, _), (11, _), (12, _), (13, _), (65, _)] a := hA.sub ((.cons rfl (.cons rfl (.cons rfl (.cons rfl (.cons rfl (.cons rfl (.cons rfl (.cons rfl (.cons rfl (.cons rfl (.cons rfl .nil))))))))))))
        refine Ends.condF hA rfl ?_
        refine Ends.skip ?_
        refine Ends.seq ?_
        refine Ends.region ?_
        refine S.val hA (R.move rfl) rfl ?_; clear hA a; intro a hA
        refine S.val hA (R.indexAddrA (q := n20) ar98 rfl rfl (by first | omega | (simp; done)) (by first | omega | (simp; done))) rfl ?_; clear hA a; intro a hA
        refine S.val hA (R.load sz97 rfl (hM.cell (k := 10) rfl (vals_at _ _ _ (maV_at hmj)))) rfl ?_; clear hA a; intro a hA
        refine S.val hA (R.assign rfl) rfl ?_; clear hA a; intro a hA
        refine S.done ?_
        replace hA : St 321 [(0, _), (1, _), (5, _), (6, _), (8, _), (9, _), (10, _), (11, _), (13, _), (16, _)] a := hA.sub ((.cons rfl (.cons rfl (.cons rfl (.cons rfl (.cons rfl (.cons rfl (.cons rfl (.cons rfl (.cons rfl (.cons rfl .nil)))))))))))
        refine Ends.seq ?_
        refine Ends.region ?_
        refine S.val hA (R.move rfl) rfl ?_; clear hA a; intro a hA
        refine S.call hA (R.callF Try.func27 rfl rfl rfl) rfl (steps_ok m5 c6 l s op hm5c6 _ (hM.mem (k := 7) rfl)) ?_; clear hA a
        rintro e w27 ⟨rfl, rfl⟩
        refine ⟨.int .i64 s, rfl, fun a hA => ?_⟩
        refine S.val hA (R.assign rfl) rfl ?_; clear hA a; intro a hA
        refine S.done ?_
        replace hA : St 321 [(0, _), (1, _), (5, _), (6, _), (8, _), (9, _), (10, _), (11, _), (13, _), (16, _), (17, _)] a := hA.sub ((.cons rfl (.cons rfl (.cons rfl (.cons rfl (.cons rfl (.cons rfl (.cons rfl (.cons rfl (.cons rfl (.cons rfl (.cons rfl .nil))))))))))))
        refine Ends.seq ?_
        refine Ends.region ?_
        refine S.val hA (R.move rfl) rfl ?_; clear hA a; intro a hA
        refine S.val hA (R.nilCheck rfl) rfl ?_; clear hA a; intro a hA
        refine S.val hA (R.fieldAddr (q := 0) fi102_0 rfl rfl rfl) rfl ?_; clear hA a; intro a hA
        refine S.val hA (R.load sz83 rfl (hM.cell (k := 0) rfl rfl)) rfl ?_; clear hA a; intro a hA
        replace hM := hM.front (k := 7) rfl
        replace hM := hM.front (k := 7) rfl
        replace hM := hM.front (k := 7) rfl
        replace hM := hM.front (k := 7) rfl
        replace hM := hM.front (k := 5) rfl
        replace hM : Mem _ _ [pt t.b2 #[.pointer (some ⟨q4, 0, none⟩), .int .i64 n20, .bool t.t.give, .int .i64 t.t.slot, .int .i64 t.t.ph, .int .i64 t.t.top, .int .i64 t.t.next] 131, pt q4 #[.pointer (some ⟨m5, 0, none⟩), .int .i64 3, .slice (some ⟨nb7, 0, none⟩) n.toNat n.toNat, .slice (some ⟨ob8, 0, none⟩) 4 4] 128, pt ob8 ((vals (gs.map owV))) 43, bundle (gs.map owC), memO m5 c6 l s op, pt t.b1 #[.pointer (some ⟨t.b2, 0, none⟩), .bool t.gv, .int .i64 t.sl, .int .i64 t.fr] 102, bundle ((ms.eraseIdx n20).map (maC q4)), pt b18 #[.int .i64 x0, .int .i64 x1, .int .i64 x2] 100, pt wb10 #[.slice (some ⟨gH, 0, none⟩) H.length c12] 93, own 3 1 (.slice (some ⟨gH, 0, none⟩) H.length c12) H.length (H.map (Value.int .i64)), pt b13 ((vals (ms.map maV))) 98, pt b15 ((vals (hs.map owV))) 65, bundle (hs.map owC)] _ := hM
        refine S.call hA (R.callF Try.func55 rfl rfl rfl) rfl (pstep_b t.b2 q4 m5 nb7 n.toNat ob8 4 c6 3 n V op hm5c6 gs hgl t.t l s (by omega) H xs (tsOf ms) n20 yg hg (by omega) (tsOf_at hmj) hyg (by omega) _ (hM.hereN 5)) ?_; clear hA a
        rintro e w28 ⟨a9, c9, o9, ⟨t9, Y9, l9, s9⟩, rfl, hn, hs9, hpo⟩
        replace hM : Mem _ _ [pt t.b2 #[.pointer (some ⟨q4, 0, none⟩), .int .i64 n20, .bool t9.give, .int .i64 t9.slot, .int .i64 t9.ph, .int .i64 t9.top, .int .i64 t9.next] 131, pt q4 #[.pointer (some ⟨m5, 0, none⟩), .int .i64 3, .slice (some ⟨nb7, 0, none⟩) n.toNat n.toNat, .slice (some ⟨ob8, 0, none⟩) 4 4] 128, pt ob8 ((vals ((gs.set n20 ⟨Y9, a9, c9⟩).map owV))) 43, bundle ((gs.set n20 ⟨Y9, a9, c9⟩).map owC), memO m5 c6 l9 s9 o9, pt t.b1 #[.pointer (some ⟨t.b2, 0, none⟩), .bool t.gv, .int .i64 t.sl, .int .i64 t.fr] 102, bundle ((ms.eraseIdx n20).map (maC q4)), pt b18 #[.int .i64 x0, .int .i64 x1, .int .i64 x2] 100, pt wb10 #[.slice (some ⟨gH, 0, none⟩) H.length c12] 93, own 3 1 (.slice (some ⟨gH, 0, none⟩) H.length c12) H.length (H.map (Value.int .i64)), pt b13 ((vals (ms.map maV))) 98, pt b15 ((vals (hs.map owV))) 65, bundle (hs.map owC)] _ := hM.callL 5 hn; clear hn
        replace hs9 : s ≤ s9 ∧ s9 ≤ s + 1 := hs9
        obtain ⟨xs9, hlk9⟩ := pout_look hpo
        replace hlk9 : Look n l9 xs9 ((gs.map (·.Y)).set n20 Y9) := hlk9
        refine ⟨.bool (decide (t9.ph = 3)), rfl, fun a hA => ?_⟩
        refine S.val hA (R.assign rfl) rfl ?_; clear hA a; intro a hA
        refine S.done ?_
        replace hA : St 321 [(0, _), (1, _), (5, _), (6, _), (8, _), (9, _), (10, _), (11, _), (13, _), (16, _), (17, _), (18, _)] a := hA.sub ((.cons rfl (.cons rfl (.cons rfl (.cons rfl (.cons rfl (.cons rfl (.cons rfl (.cons rfl (.cons rfl (.cons rfl (.cons rfl (.cons rfl .nil)))))))))))))
        refine Ends.seq ?_
        refine Ends.seq ?_
        refine Ends.region ?_
        refine S.val hA (R.move rfl) rfl ?_; clear hA a; intro a hA
        refine S.call hA (R.callF Try.func27 rfl rfl rfl) rfl (steps_ok m5 c6 l9 s9 o9 hm5c6 _ (hM.mem (k := 4) rfl)) ?_; clear hA a
        rintro e w29 ⟨rfl, rfl⟩
        refine ⟨.int .i64 s9, rfl, fun a hA => ?_⟩
        refine S.val hA (R.move rfl) rfl ?_; clear hA a; intro a hA
        refine S.val hA (R.addI rfl rfl (r := s + 1) rfl (by first | omega | (simp; done))) rfl ?_; clear hA a; intro a hA
        refine S.val hA (R.ff (R.gtr rfl rfl) (by first | omega | (simp; done))) rfl ?_; clear hA a; intro a hA
        refine S.val hA (R.move rfl) rfl ?_; clear hA a; intro a hA
        refine S.valg (dj := 147) hA (by kernel_rfl) rfl (R.move rfl) rfl ?_; clear hA a; intro a hA
        refine S.valg (dj := 147) hA (by kernel_rfl) rfl (R.move rfl) rfl ?_; clear hA a; intro a hA
        refine S.valg (dj := 147) hA (by kernel_rfl) rfl (R.nilCheck rfl) rfl ?_; clear hA a; intro a hA
        refine S.valg (dj := 147) hA (by kernel_rfl) rfl (R.fieldAddr (q := 0) fi102_0 rfl rfl rfl) rfl ?_; clear hA a; intro a hA
        refine S.valg (dj := 147) hA (by kernel_rfl) rfl (R.load sz83 rfl (hM.cell (k := 5) rfl rfl)) rfl ?_; clear hA a; intro a hA
        refine S.callg (dj := 147) hA (by kernel_rfl) rfl (R.callF Try.func54 rfl rfl rfl) rfl (pact_over t.b2 q4 (n20 : Int) t9 _ (hM.block (k := 0) rfl)) ?_; clear hA a
        rintro e w30 ⟨rfl, rfl⟩
        refine ⟨.bool (decide (t9.ph = 3)), rfl, fun a hA => ?_⟩
        refine S.valg (dj := 147) hA (by kernel_rfl) rfl (R.to (v := .bool false) (R.neqB Try.underlying4 rfl rfl) (congrArg Value.bool (by simp))) rfl ?_; clear hA a; intro a hA
        refine S.val hA (R.pickF rfl rfl) rfl ?_; clear hA a; intro a hA
        refine S.done ?_
        replace hA : St 321 [(0, _), (1, _), (5, _), (6, _), (8, _), (9, _), (10, _), (11, _), (13, _), (16, _), (18, _), (155, _)] a := hA.sub ((.cons rfl (.cons rfl (.cons rfl (.cons rfl (.cons rfl (.cons rfl (.cons rfl (.cons rfl (.cons rfl (.cons rfl (.cons rfl (.cons rfl .nil)))))))))))))
        refine Ends.condF hA rfl ?_
        refine Ends.skip ?_
        refine Ends.seq ?_
        refine Ends.seq ?_
        refine Ends.region ?_
        refine S.val hA (R.assign rfl) rfl ?_; clear hA a; intro a hA
        refine S.done ?_
        replace hA : St 321 [(0, _), (1, _), (5, _), (6, _), (8, _), (9, _), (10, _), (11, _), (13, _), (16, _), (18, _), (19, _)] a := hA.sub ((.cons rfl (.cons rfl (.cons rfl (.cons rfl (.cons rfl (.cons rfl (.cons rfl (.cons rfl (.cons rfl (.cons rfl (.cons rfl (.cons rfl .nil)))))))))))))
        refine Ends.block ?_
        replace hM := hM.front (k := 6) rfl
        replace hM := hM.front (k := 1) rfl
        replace hM := hM.front (k := 6) rfl
        replace hM : Mem _ _ [pt t.b1 #[.pointer (some ⟨t.b2, 0, none⟩), .bool t.gv, .int .i64 t.sl, .int .i64 t.fr] 102, pt t.b2 #[.pointer (some ⟨q4, 0, none⟩), .int .i64 n20, .bool t9.give, .int .i64 t9.slot, .int .i64 t9.ph, .int .i64 t9.top, .int .i64 t9.next] 131, bundle ((ms.eraseIdx n20).map (maC q4)), pt q4 #[.pointer (some ⟨m5, 0, none⟩), .int .i64 3, .slice (some ⟨nb7, 0, none⟩) n.toNat n.toNat, .slice (some ⟨ob8, 0, none⟩) 4 4] 128, pt ob8 ((vals ((gs.set n20 ⟨Y9, a9, c9⟩).map owV))) 43, bundle ((gs.set n20 ⟨Y9, a9, c9⟩).map owC), memO m5 c6 l9 s9 o9, pt b18 #[.int .i64 x0, .int .i64 x1, .int .i64 x2] 100, pt wb10 #[.slice (some ⟨gH, 0, none⟩) H.length c12] 93, own 3 1 (.slice (some ⟨gH, 0, none⟩) H.length c12) H.length (H.map (Value.int .i64)), pt b13 ((vals (ms.map maV))) 98, pt b15 ((vals (hs.map owV))) 65, bundle (hs.map owC)] _ := hM
        replace hM := (hM.pack (cs := [pt t.b1 #[.pointer (some ⟨t.b2, 0, none⟩), .bool t.gv, .int .i64 t.sl, .int .i64 t.fr] 102, pt t.b2 #[.pointer (some ⟨q4, 0, none⟩), .int .i64 n20, .bool t9.give, .int .i64 t9.slot, .int .i64 t9.ph, .int .i64 t9.top, .int .i64 t9.next] 131])).closeB (f := maC q4) (y := (some ⟨t.b1, t.b2, t9, t.gv, t.sl, t.fr, (n20 : Int)⟩ : MS)) hmj
        rw [← maV_set (t' := ⟨t.b1, t.b2, t9, t.gv, t.sl, t.fr, (n20 : Int)⟩) hmj rfl] at hM
        replace hM : Mem _ _ [bundle ((ms.set n20 (some ⟨t.b1, t.b2, t9, t.gv, t.sl, t.fr, (n20 : Int)⟩)).map (maC q4)), pt q4 #[.pointer (some ⟨m5, 0, none⟩), .int .i64 3, .slice (some ⟨nb7, 0, none⟩) n.toNat n.toNat, .slice (some ⟨ob8, 0, none⟩) 4 4] 128, pt ob8 ((vals ((gs.set n20 ⟨Y9, a9, c9⟩).map owV))) 43, bundle ((gs.set n20 ⟨Y9, a9, c9⟩).map owC), memO m5 c6 l9 s9 o9, pt b18 #[.int .i64 x0, .int .i64 x1, .int .i64 x2] 100, pt wb10 #[.slice (some ⟨gH, 0, none⟩) H.length c12] 93, own 3 1 (.slice (some ⟨gH, 0, none⟩) H.length c12) H.length (H.map (Value.int .i64)), pt b13 ((vals ((ms.set n20 (some ⟨t.b1, t.b2, t9, t.gv, t.sl, t.fr, (n20 : Int)⟩)).map maV))) 98, pt b15 ((vals (hs.map owV))) 65, bundle (hs.map owC)] _ := hM
        have hgl9 : (gs.set n20 ⟨Y9, a9, c9⟩).length = 4 := by rw [List.length_set]; exact hgl
        replace hM := hM.front (k := 10) rfl
        replace hM := hM.front (k := 10) rfl
        replace hM := hM.front (k := 2) rfl
        replace hM := hM.front (k := 10) rfl
        replace hM := hM.front (k := 10) rfl
        replace hM := hM.front (k := 10) rfl
        replace hM := hM.front (k := 9) rfl
        replace hM := hM.front (k := 9) rfl
        replace hM := hM.front (k := 9) rfl
        replace hM := hM.front (k := 9) rfl
        replace hM : Mem _ _ [pt q4 #[.pointer (some ⟨m5, 0, none⟩), .int .i64 3, .slice (some ⟨nb7, 0, none⟩) n.toNat n.toNat, .slice (some ⟨ob8, 0, none⟩) 4 4] 128, pt ob8 ((vals ((gs.set n20 ⟨Y9, a9, c9⟩).map owV))) 43, bundle ((gs.set n20 ⟨Y9, a9, c9⟩).map owC), memO m5 c6 l9 s9 o9, pt wb10 #[.slice (some ⟨gH, 0, none⟩) H.length c12] 93, own 3 1 (.slice (some ⟨gH, 0, none⟩) H.length c12) H.length (H.map (Value.int .i64)), pt b13 ((vals ((ms.set n20 (some ⟨t.b1, t.b2, t9, t.gv, t.sl, t.fr, (n20 : Int)⟩)).map maV))) 98, bundle ((ms.set n20 (some ⟨t.b1, t.b2, t9, t.gv, t.sl, t.fr, (n20 : Int)⟩)).map (maC q4)), pt b15 ((vals (hs.map owV))) 65, bundle (hs.map owC), pt b18 #[.int .i64 x0, .int .i64 x1, .int .i64 x2] 100] _ := hM
        replace hM : Mem _ _ [pt q4 #[.pointer (some ⟨m5, 0, none⟩), .int .i64 3, .slice (some ⟨nb7, 0, none⟩) n.toNat n.toNat, .slice (some ⟨ob8, 0, none⟩) 4 4] 128, pt ob8 ((vals ((gs.set n20 ⟨Y9, a9, c9⟩).map owV))) 43, bundle ((gs.set n20 ⟨Y9, a9, c9⟩).map owC), memO m5 c6 l9 s9 o9, pt wb10 #[.slice (some ⟨gH, 0, none⟩) H.length c12] 93, own 3 1 (.slice (some ⟨gH, 0, none⟩) H.length c12) H.length (H.map (Value.int .i64)), pt b13 ((vals ((ms.set n20 (some ⟨t.b1, t.b2, t9, t.gv, t.sl, t.fr, (n20 : Int)⟩)).map maV))) 98, bundle ((ms.set n20 (some ⟨t.b1, t.b2, t9, t.gv, t.sl, t.fr, (n20 : Int)⟩)).map (maC q4)), pt b15 ((vals (hs.map owV))) 65, bundle (hs.map owC)] _ := hM.firstN 10
        refine Ends.loop (σ := Nat × List MS) (fun (k, ms2) (a : Act) (wv : World) => St 321 [(0, .int .i64 n), (1, .slice (some ⟨g, off, none⟩) nr cap), (5, .pointer (some ⟨q4, 0, none⟩)), (6, .pointer (some ⟨m5, 0, none⟩)), (8, .pointer (some ⟨wb10, 0, none⟩)), (9, .pointer (some ⟨b13, 0, none⟩)), (10, .pointer (some ⟨b15, 0, none⟩)), (11, .int .i64 ((i : Int))), (13, .int .i64 ((n20 : Int))), (16, .pointer (some ⟨t.b1, 0, none⟩)), (18, .bool (decide (t9.ph = 3))), (19, .int .i64 ((k : Int)))] a ∧ Mem w nof [pt q4 #[.pointer (some ⟨m5, 0, none⟩), .int .i64 3, .slice (some ⟨nb7, 0, none⟩) n.toNat n.toNat, .slice (some ⟨ob8, 0, none⟩) 4 4] 128, pt ob8 ((vals ((gs.set n20 ⟨Y9, a9, c9⟩).map owV))) 43, bundle ((gs.set n20 ⟨Y9, a9, c9⟩).map owC), memO m5 c6 l9 s9 o9, pt wb10 #[.slice (some ⟨gH, 0, none⟩) H.length c12] 93, own 3 1 (.slice (some ⟨gH, 0, none⟩) H.length c12) H.length (H.map (Value.int .i64)), pt b13 ((vals (ms2.map maV))) 98, bundle (ms2.map (maC q4)), pt b15 ((vals (hs.map owV))) 65, bundle (hs.map owC)] wv ∧ (k ≤ 4) ∧ (ErEq ms2 (ms.set n20 (some ⟨t.b1, t.b2, t9, t.gv, t.sl, t.fr, (n20 : Int)⟩))) ∧ (∀ j x y, j < k → ms2[j]? = some (some x) → (gs.set n20 ⟨Y9, a9, c9⟩)[j]? = some y → x.fr ≤ (xs9.length : Int) + (y.Y.length : Int))) (fun (k, ms2) => 4 - k) ((0, (ms.set n20 (some ⟨t.b1, t.b2, t9, t.gv, t.sl, t.fr, (n20 : Int)⟩)))) ⟨hA.sub ((.cons rfl (.cons rfl (.cons rfl (.cons rfl (.cons rfl (.cons rfl (.cons rfl (.cons rfl (.cons rfl (.cons rfl (.cons rfl (.cons rfl .nil))))))))))))), hM, (by omega), rfl, (fun j x y hj => absurd hj (Nat.not_lt_zero j))⟩ ?_
        clear hA hM a
        rintro ⟨k, ms2⟩ a w31 ⟨hA, hM, hkk4, her, hfr⟩ hNext1
        refine Ends.seq ?_
        refine Ends.seq ?_
        refine Ends.region ?_
        refine S.val hA (R.move rfl) rfl ?_; clear hA a; intro a hA
        refine S.val hA (R.lss rfl rfl) rfl ?_; clear hA a; intro a hA
        refine S.done ?_
        replace hA : St 321 [(0, _), (1, _), (5, _), (6, _), (8, _), (9, _), (10, _), (11, _), (13, _), (16, _), (18, _), (19, _), (157, _)] a := hA.sub ((.cons rfl (.cons rfl (.cons rfl (.cons rfl (.cons rfl (.cons rfl (.cons rfl (.cons rfl (.cons rfl (.cons rfl (.cons rfl (.cons rfl (.cons rfl .nil))))))))))))))
        refine Ends.ite hA rfl (fun hc49 => ?_) (fun hc49 => ?_)
        ·
          refine Ends.skip ?_
          refine Ends.seq ?_
          refine Ends.block ?_
          refine Ends.seq ?_
          by_cases hs50 : ms2[k]? = some none
          ·
            have hml2 : ms2.length = 4 := by rw [er_len her, List.length_set]; exact hml
            refine Ends.region ?_
            refine S.val hA (R.move rfl) rfl ?_; clear hA a; intro a hA
            refine S.val hA (R.indexAddrA (q := k) ar98 rfl rfl (by first | omega | (simp; done)) (by first | omega | (simp; done))) rfl ?_; clear hA a; intro a hA
            refine S.val hA (R.load sz97 rfl (hM.cell (k := 6) rfl (vals_at _ _ _ (maV_at hs50)))) rfl ?_; clear hA a; intro a hA
            refine S.val hA (R.neqNil Try.underlying97 rfl rfl) rfl ?_; clear hA a; intro a hA
            refine S.done ?_
            replace hA : St 321 [(0, _), (1, _), (5, _), (6, _), (8, _), (9, _), (10, _), (11, _), (13, _), (16, _), (18, _), (19, _), (163, _)] a := hA.sub ((.cons rfl (.cons rfl (.cons rfl (.cons rfl (.cons rfl (.cons rfl (.cons rfl (.cons rfl (.cons rfl (.cons rfl (.cons rfl (.cons rfl (.cons rfl .nil))))))))))))))
            refine Ends.condF hA rfl ?_
            refine Ends.skip ?_
            refine Ends.inBlock ?_
            refine Ends.region ?_
            refine S.val hA (R.move rfl) rfl ?_; clear hA a; intro a hA
            refine S.val hA (R.addI rfl rfl (r := ((k : Int)) + 1) rfl (by first | omega | (simp; done))) rfl ?_; clear hA a; intro a hA
            refine S.val hA (R.assign rfl) rfl ?_; clear hA a; intro a hA
            refine S.done ?_
            replace hA : St 321 [(0, _), (1, _), (5, _), (6, _), (8, _), (9, _), (10, _), (11, _), (13, _), (16, _), (18, _), (19, _)] a := hA.sub ((.cons rfl (.cons rfl (.cons rfl (.cons rfl (.cons rfl (.cons rfl (.cons rfl (.cons rfl (.cons rfl (.cons rfl (.cons rfl (.cons rfl .nil)))))))))))))
            replace hM : Mem _ _ [pt q4 #[.pointer (some ⟨m5, 0, none⟩), .int .i64 3, .slice (some ⟨nb7, 0, none⟩) n.toNat n.toNat, .slice (some ⟨ob8, 0, none⟩) 4 4] 128, pt ob8 ((vals ((gs.set n20 ⟨Y9, a9, c9⟩).map owV))) 43, bundle ((gs.set n20 ⟨Y9, a9, c9⟩).map owC), memO m5 c6 l9 s9 o9, pt wb10 #[.slice (some ⟨gH, 0, none⟩) H.length c12] 93, own 3 1 (.slice (some ⟨gH, 0, none⟩) H.length c12) H.length (H.map (Value.int .i64)), pt b13 ((vals (ms2.map maV))) 98, bundle (ms2.map (maC q4)), pt b15 ((vals (hs.map owV))) 65, bundle (hs.map owC)] _ := hM.firstN 10
            exact hNext1 ((k + 1, ms2)) _ _ ((by show 4 - (k + 1) < 4 - k; omega)) ⟨hA.sub ((.cons rfl (.cons rfl (.cons rfl (.cons rfl (.cons rfl (.cons rfl (.cons rfl (.cons rfl (.cons rfl (.cons rfl (.cons rfl (.cons rfl .nil))))))))))))), hM, (by omega), her, (fun j x y hj hx hy => by rcases Nat.lt_or_ge j k with h | h; exact hfr j x y h hx hy; have e : j = k := (by omega); subst e; rw [hs50] at hx; cases hx)⟩
          ·
            replace hM := hM.front (k := 7) rfl
            replace hM : Mem _ _ [bundle (ms2.map (maC q4)), pt q4 #[.pointer (some ⟨m5, 0, none⟩), .int .i64 3, .slice (some ⟨nb7, 0, none⟩) n.toNat n.toNat, .slice (some ⟨ob8, 0, none⟩) 4 4] 128, pt ob8 ((vals ((gs.set n20 ⟨Y9, a9, c9⟩).map owV))) 43, bundle ((gs.set n20 ⟨Y9, a9, c9⟩).map owC), memO m5 c6 l9 s9 o9, pt wb10 #[.slice (some ⟨gH, 0, none⟩) H.length c12] 93, own 3 1 (.slice (some ⟨gH, 0, none⟩) H.length c12) H.length (H.map (Value.int .i64)), pt b13 ((vals (ms2.map maV))) 98, pt b15 ((vals (hs.map owV))) 65, bundle (hs.map owC)] _ := hM
            have hml2 : ms2.length = 4 := by rw [er_len her, List.length_set]; exact hml
            obtain ⟨x, hx⟩ := ma_some (by omega) hs50
            obtain ⟨y2, hy2⟩ := ows_some (gs := (gs.set n20 ⟨Y9, a9, c9⟩)) (k := k) (by omega)
            have hyl2 : y2.Y.length ≤ 2 := hlk9.own y2.Y (by have hm : y2.Y ∈ (gs.set n20 ⟨Y9, a9, c9⟩).map (·.Y) := List.mem_map.2 ⟨y2, List.mem_of_getElem? hy2, rfl⟩; rwa [List.map_set] at hm)
            have hxl9 := hlk9.len
            replace hM : Mem _ _ [pt x.b1 #[.pointer (some ⟨x.b2, 0, none⟩), .bool x.gv, .int .i64 x.sl, .int .i64 x.fr] 102, pt x.b2 #[.pointer (some ⟨q4, 0, none⟩), .int .i64 x.wr, .bool x.t.give, .int .i64 x.t.slot, .int .i64 x.t.ph, .int .i64 x.t.top, .int .i64 x.t.next] 131, bundle ((ms2.eraseIdx k).map (maC q4)), pt q4 #[.pointer (some ⟨m5, 0, none⟩), .int .i64 3, .slice (some ⟨nb7, 0, none⟩) n.toNat n.toNat, .slice (some ⟨ob8, 0, none⟩) 4 4] 128, pt ob8 ((vals ((gs.set n20 ⟨Y9, a9, c9⟩).map owV))) 43, bundle ((gs.set n20 ⟨Y9, a9, c9⟩).map owC), memO m5 c6 l9 s9 o9, pt wb10 #[.slice (some ⟨gH, 0, none⟩) H.length c12] 93, own 3 1 (.slice (some ⟨gH, 0, none⟩) H.length c12) H.length (H.map (Value.int .i64)), pt b13 ((vals (ms2.map maV))) 98, pt b15 ((vals (hs.map owV))) 65, bundle (hs.map owC)] _ := (hM.openB hx).unpack
            refine Ends.region ?_
            refine S.val hA (R.move rfl) rfl ?_; clear hA a; intro a hA
            refine S.val hA (R.indexAddrA (q := k) ar98 rfl rfl (by first | omega | (simp; done)) (by first | omega | (simp; done))) rfl ?_; clear hA a; intro a hA
            refine S.val hA (R.load sz97 rfl (hM.cell (k := 9) rfl (vals_at _ _ _ (maV_at hx)))) rfl ?_; clear hA a; intro a hA
            refine S.val hA (R.neqNil Try.underlying97 rfl rfl) rfl ?_; clear hA a; intro a hA
            refine S.done ?_
            replace hA : St 321 [(0, _), (1, _), (5, _), (6, _), (8, _), (9, _), (10, _), (11, _), (13, _), (16, _), (18, _), (19, _), (163, _)] a := hA.sub ((.cons rfl (.cons rfl (.cons rfl (.cons rfl (.cons rfl (.cons rfl (.cons rfl (.cons rfl (.cons rfl (.cons rfl (.cons rfl (.cons rfl (.cons rfl .nil))))))))))))))
            refine Ends.condT hA rfl ?_
            refine Ends.drawn (Mem w nof [pt x.b1 #[.pointer (some ⟨x.b2, 0, none⟩), .bool x.gv, .int .i64 x.sl, .int .i64 x.fr] 102, pt b13 ((vals (ms2.map maV))) 98]) (.cons (0, true) (.cons (1, true) (.cons (2, true) (.cons (3, true) (.cons (4, true) (.cons (5, true) (.cons (6, true) (.cons (7, true) (.cons (8, true) (.cons (9, true) (.cons (12, true) (.cons (13, true) (.cons (10, false) (.cons (11, true) (.cons (14, false) (.cons (15, true) (.cons (16, true) (.cons (17, true) (.cons (18, true) (.cons (19, true) (.cons (20, false) .nil))))))))))))))))))))) 20 mixed (by kernel_rfl) (by kernel_rfl) (by kernel_rfl) ((((((((((hM.drop 11).drop 10).drop 8).drop 7).drop 6).drop 5).drop 4).drop 3).drop 2).drop 1).drew ?_
            replace hM := hM.drew
            refine D.valF hA rfl (fun _ => R.move rfl) rfl ?_; clear hA a; intro a hA
            refine D.valF hA rfl (fun _ => R.indexAddrA (q := k) ar98 rfl rfl (by first | omega | (simp; done)) (by first | omega | (simp; done))) rfl ?_; clear hA a; intro a hA
            refine D.val hA rfl (by kernel_rfl) (fun _ hM => R.load sz97 rfl (hM.cell (k := 1) rfl (vals_at _ _ _ (maV_at hx)))) rfl ?_; clear hA a; intro a hA
            refine D.valF hA rfl (fun _ => R.move rfl) rfl ?_; clear hA a; intro a hA
            refine D.valF hA rfl (fun _ => R.indexAddrA (q := k) ar98 rfl rfl (by first | omega | (simp; done)) (by first | omega | (simp; done))) rfl ?_; clear hA a; intro a hA
            refine D.val hA rfl (by kernel_rfl) (fun _ hM => R.load sz97 rfl (hM.cell (k := 1) rfl (vals_at _ _ _ (maV_at hx)))) rfl ?_; clear hA a; intro a hA
            refine D.valF hA rfl (fun _ => R.nilCheck rfl) rfl ?_; clear hA a; intro a hA
            refine D.valF hA rfl (fun _ => R.fieldAddr (q := 3) fi102_3 rfl rfl rfl) rfl ?_; clear hA a; intro a hA
            refine D.val hA rfl (by kernel_rfl) (fun _ hM => R.load sz3 rfl (hM.cell (k := 0) rfl rfl)) rfl ?_; clear hA a; intro a hA
            refine D.valF hA rfl (fun _ => R.move rfl) rfl ?_; clear hA a; intro a hA
            refine D.valF hA rfl (fun _ => R.move rfl) rfl ?_; clear hA a; intro a hA
            refine D.valF hA rfl (fun _ => R.move rfl) rfl ?_; clear hA a; intro a hA
            replace hM := hM.front (k := 6) rfl
            replace hM := hM.front (k := 4) rfl
            replace hM : Mem _ _ [pt q4 #[.pointer (some ⟨m5, 0, none⟩), .int .i64 3, .slice (some ⟨nb7, 0, none⟩) n.toNat n.toNat, .slice (some ⟨ob8, 0, none⟩) 4 4] 128, memO m5 c6 l9 s9 o9, pt x.b1 #[.pointer (some ⟨x.b2, 0, none⟩), .bool x.gv, .int .i64 x.sl, .int .i64 x.fr] 102, pt x.b2 #[.pointer (some ⟨q4, 0, none⟩), .int .i64 x.wr, .bool x.t.give, .int .i64 x.t.slot, .int .i64 x.t.ph, .int .i64 x.t.top, .int .i64 x.t.next] 131, bundle ((ms2.eraseIdx k).map (maC q4)), pt ob8 ((vals ((gs.set n20 ⟨Y9, a9, c9⟩).map owV))) 43, bundle ((gs.set n20 ⟨Y9, a9, c9⟩).map owC), pt wb10 #[.slice (some ⟨gH, 0, none⟩) H.length c12] 93, own 3 1 (.slice (some ⟨gH, 0, none⟩) H.length c12) H.length (H.map (Value.int .i64)), pt b13 ((vals (ms2.map maV))) 98, pt b15 ((vals (hs.map owV))) 65, bundle (hs.map owC)] _ := hM
            refine D.call hA rfl (R.callF Try.func53 rfl rfl rfl) rfl (pshared_any q4 m5 c6 nb7 n.toNat ob8 4 3 l9 s9 o9 hm5c6 xs9 (by have := hlk9.mi; unfold MI at this; omega) (by omega) (by have := hlk9.mi.2.2.2.2.2.1; exact ⟨this.1, this.2.1⟩) hlk9.chn hlk9.len (fun x hx => by have := hlk9.rng x hx; omega) _ (hM.hereN 2)) ?_; clear hA a
            rintro e w32 ⟨a51, c52, rfl, hn⟩
            replace hM : Mem _ _ [own 3 1 (.slice a51 xs9.length c52) xs9.length (xs9.map (Value.int .i64)), pt q4 #[.pointer (some ⟨m5, 0, none⟩), .int .i64 3, .slice (some ⟨nb7, 0, none⟩) n.toNat n.toNat, .slice (some ⟨ob8, 0, none⟩) 4 4] 128, memO m5 c6 l9 s9 o9, pt x.b1 #[.pointer (some ⟨x.b2, 0, none⟩), .bool x.gv, .int .i64 x.sl, .int .i64 x.fr] 102, pt x.b2 #[.pointer (some ⟨q4, 0, none⟩), .int .i64 x.wr, .bool x.t.give, .int .i64 x.t.slot, .int .i64 x.t.ph, .int .i64 x.t.top, .int .i64 x.t.next] 131, bundle ((ms2.eraseIdx k).map (maC q4)), pt ob8 ((vals ((gs.set n20 ⟨Y9, a9, c9⟩).map owV))) 43, bundle ((gs.set n20 ⟨Y9, a9, c9⟩).map owC), pt wb10 #[.slice (some ⟨gH, 0, none⟩) H.length c12] 93, own 3 1 (.slice (some ⟨gH, 0, none⟩) H.length c12) H.length (H.map (Value.int .i64)), pt b13 ((vals (ms2.map maV))) 98, pt b15 ((vals (hs.map owV))) 65, bundle (hs.map owC)] _ := hM.callL 2 hn; clear hn
            refine ⟨.slice a51 xs9.length c52, rfl, (((((((((((hM.drop 12).drop 11).drop 9).drop 8).drop 7).drop 6).drop 5).drop 4).drop 2).drop 1).drop 0), fun a hA => ?_⟩
            refine D.valF hA rfl (fun _ => R.lenS Try.underlying43 rfl rfl) rfl ?_; clear hA a; intro a hA
            replace hM := hM.front (k := 7) rfl
            replace hM := hM.front (k := 7) rfl
            replace hM := hM.front (k := 3) rfl
            replace hM : Mem _ _ [pt q4 #[.pointer (some ⟨m5, 0, none⟩), .int .i64 3, .slice (some ⟨nb7, 0, none⟩) n.toNat n.toNat, .slice (some ⟨ob8, 0, none⟩) 4 4] 128, pt ob8 ((vals ((gs.set n20 ⟨Y9, a9, c9⟩).map owV))) 43, bundle ((gs.set n20 ⟨Y9, a9, c9⟩).map owC), own 3 1 (.slice a51 xs9.length c52) xs9.length (xs9.map (Value.int .i64)), memO m5 c6 l9 s9 o9, pt x.b1 #[.pointer (some ⟨x.b2, 0, none⟩), .bool x.gv, .int .i64 x.sl, .int .i64 x.fr] 102, pt x.b2 #[.pointer (some ⟨q4, 0, none⟩), .int .i64 x.wr, .bool x.t.give, .int .i64 x.t.slot, .int .i64 x.t.ph, .int .i64 x.t.top, .int .i64 x.t.next] 131, bundle ((ms2.eraseIdx k).map (maC q4)), pt wb10 #[.slice (some ⟨gH, 0, none⟩) H.length c12] 93, own 3 1 (.slice (some ⟨gH, 0, none⟩) H.length c12) H.length (H.map (Value.int .i64)), pt b13 ((vals (ms2.map maV))) 98, pt b15 ((vals (hs.map owV))) 65, bundle (hs.map owC)] _ := hM
            refine D.call hA rfl (R.callF Try.func52 rfl rfl rfl) rfl (pown_b q4 m5 nb7 n.toNat ob8 4 3 k (gs.set n20 ⟨Y9, a9, c9⟩) y2 (by omega) hy2 (by omega) _ (hM.hereN 3)) ?_; clear hA a
            rintro e w33 ⟨a53, c54, rfl, hn⟩
            replace hM : Mem _ _ [own 3 1 (.slice a53 y2.Y.length c54) y2.Y.length (y2.Y.map (Value.int .i64)), pt q4 #[.pointer (some ⟨m5, 0, none⟩), .int .i64 3, .slice (some ⟨nb7, 0, none⟩) n.toNat n.toNat, .slice (some ⟨ob8, 0, none⟩) 4 4] 128, pt ob8 ((vals ((gs.set n20 ⟨Y9, a9, c9⟩).map owV))) 43, bundle ((gs.set n20 ⟨Y9, a9, c9⟩).map owC), own 3 1 (.slice a51 xs9.length c52) xs9.length (xs9.map (Value.int .i64)), memO m5 c6 l9 s9 o9, pt x.b1 #[.pointer (some ⟨x.b2, 0, none⟩), .bool x.gv, .int .i64 x.sl, .int .i64 x.fr] 102, pt x.b2 #[.pointer (some ⟨q4, 0, none⟩), .int .i64 x.wr, .bool x.t.give, .int .i64 x.t.slot, .int .i64 x.t.ph, .int .i64 x.t.top, .int .i64 x.t.next] 131, bundle ((ms2.eraseIdx k).map (maC q4)), pt wb10 #[.slice (some ⟨gH, 0, none⟩) H.length c12] 93, own 3 1 (.slice (some ⟨gH, 0, none⟩) H.length c12) H.length (H.map (Value.int .i64)), pt b13 ((vals (ms2.map maV))) 98, pt b15 ((vals (hs.map owV))) 65, bundle (hs.map owC)] _ := hM.callL 3 hn; clear hn
            refine ⟨.slice a53 y2.Y.length c54, rfl, ((((((((((((hM.drop 13).drop 12).drop 10).drop 9).drop 8).drop 7).drop 5).drop 4).drop 3).drop 2).drop 1).drop 0), fun a hA => ?_⟩
            refine D.valF hA rfl (fun _ => R.lenS Try.underlying43 rfl rfl) rfl ?_; clear hA a; intro a hA
            refine D.valF hA rfl (fun _ => R.addI rfl rfl (r := ((xs9.length : Int)) + ((y2.Y.length : Int))) rfl (by first | omega | (simp; done))) rfl ?_; clear hA a; intro a hA
            refine D.valF hA rfl (fun _ => R.min rfl rfl) rfl ?_; clear hA a; intro a hA
            refine D.valF hA rfl (fun _ => R.nilCheck rfl) rfl ?_; clear hA a; intro a hA
            refine D.valF hA rfl (fun _ => R.fieldAddr (q := 3) fi102_3 rfl rfl rfl) rfl ?_; clear hA a; intro a hA
            refine D.store (k := 6) hA hM rfl sz3 rfl rfl rfl rfl rfl ?_; clear hM
            intro w34 hM; refine ⟨fun hne => absurd rfl hne, ?_⟩
            replace hM : Mem _ _ [own 3 1 (.slice a53 y2.Y.length c54) y2.Y.length (y2.Y.map (Value.int .i64)), pt q4 #[.pointer (some ⟨m5, 0, none⟩), .int .i64 3, .slice (some ⟨nb7, 0, none⟩) n.toNat n.toNat, .slice (some ⟨ob8, 0, none⟩) 4 4] 128, pt ob8 ((vals ((gs.set n20 ⟨Y9, a9, c9⟩).map owV))) 43, bundle ((gs.set n20 ⟨Y9, a9, c9⟩).map owC), own 3 1 (.slice a51 xs9.length c52) xs9.length (xs9.map (Value.int .i64)), memO m5 c6 l9 s9 o9, pt x.b1 #[.pointer (some ⟨x.b2, 0, none⟩), .bool x.gv, .int .i64 x.sl, .int .i64 (min x.fr (((xs9.length : Int)) + ((y2.Y.length : Int))))] 102, pt x.b2 #[.pointer (some ⟨q4, 0, none⟩), .int .i64 x.wr, .bool x.t.give, .int .i64 x.t.slot, .int .i64 x.t.ph, .int .i64 x.t.top, .int .i64 x.t.next] 131, bundle ((ms2.eraseIdx k).map (maC q4)), pt wb10 #[.slice (some ⟨gH, 0, none⟩) H.length c12] 93, own 3 1 (.slice (some ⟨gH, 0, none⟩) H.length c12) H.length (H.map (Value.int .i64)), pt b13 ((vals (ms2.map maV))) 98, pt b15 ((vals (hs.map owV))) 65, bundle (hs.map owC)] _ := hM
            refine D.done ?_
            replace hA : St 321 [(0, _), (1, _), (5, _), (6, _), (8, _), (9, _), (10, _), (11, _), (13, _), (16, _), (18, _), (19, _)] a := hA.sub ((.cons rfl (.cons rfl (.cons rfl (.cons rfl (.cons rfl (.cons rfl (.cons rfl (.cons rfl (.cons rfl (.cons rfl (.cons rfl (.cons rfl .nil)))))))))))))
            refine Ends.inBlock ?_
            refine Ends.region ?_
            refine S.val hA (R.move rfl) rfl ?_; clear hA a; intro a hA
            refine S.val hA (R.addI rfl rfl (r := ((k : Int)) + 1) rfl (by first | omega | (simp; done))) rfl ?_; clear hA a; intro a hA
            refine S.val hA (R.assign rfl) rfl ?_; clear hA a; intro a hA
            refine S.done ?_
            replace hA : St 321 [(0, _), (1, _), (5, _), (6, _), (8, _), (9, _), (10, _), (11, _), (13, _), (16, _), (18, _), (19, _)] a := hA.sub ((.cons rfl (.cons rfl (.cons rfl (.cons rfl (.cons rfl (.cons rfl (.cons rfl (.cons rfl (.cons rfl (.cons rfl (.cons rfl (.cons rfl .nil)))))))))))))
            replace hM := hM.front (k := 8) rfl
            replace hM := hM.front (k := 8) rfl
            replace hM := hM.front (k := 8) rfl
            replace hM : Mem _ _ [pt x.b1 #[.pointer (some ⟨x.b2, 0, none⟩), .bool x.gv, .int .i64 x.sl, .int .i64 (min x.fr (((xs9.length : Int)) + ((y2.Y.length : Int))))] 102, pt x.b2 #[.pointer (some ⟨q4, 0, none⟩), .int .i64 x.wr, .bool x.t.give, .int .i64 x.t.slot, .int .i64 x.t.ph, .int .i64 x.t.top, .int .i64 x.t.next] 131, bundle ((ms2.eraseIdx k).map (maC q4)), own 3 1 (.slice a53 y2.Y.length c54) y2.Y.length (y2.Y.map (Value.int .i64)), pt q4 #[.pointer (some ⟨m5, 0, none⟩), .int .i64 3, .slice (some ⟨nb7, 0, none⟩) n.toNat n.toNat, .slice (some ⟨ob8, 0, none⟩) 4 4] 128, pt ob8 ((vals ((gs.set n20 ⟨Y9, a9, c9⟩).map owV))) 43, bundle ((gs.set n20 ⟨Y9, a9, c9⟩).map owC), own 3 1 (.slice a51 xs9.length c52) xs9.length (xs9.map (Value.int .i64)), memO m5 c6 l9 s9 o9, pt wb10 #[.slice (some ⟨gH, 0, none⟩) H.length c12] 93, own 3 1 (.slice (some ⟨gH, 0, none⟩) H.length c12) H.length (H.map (Value.int .i64)), pt b13 ((vals (ms2.map maV))) 98, pt b15 ((vals (hs.map owV))) 65, bundle (hs.map owC)] _ := hM
            replace hM := (hM.pack (cs := [pt x.b1 #[.pointer (some ⟨x.b2, 0, none⟩), .bool x.gv, .int .i64 x.sl, .int .i64 (min x.fr (((xs9.length : Int)) + ((y2.Y.length : Int))))] 102, pt x.b2 #[.pointer (some ⟨q4, 0, none⟩), .int .i64 x.wr, .bool x.t.give, .int .i64 x.t.slot, .int .i64 x.t.ph, .int .i64 x.t.top, .int .i64 x.t.next] 131])).closeB (f := maC q4) (y := (some ⟨x.b1, x.b2, x.t, x.gv, x.sl, min x.fr (((xs9.length : Int)) + ((y2.Y.length : Int))), x.wr⟩ : MS)) hx
            rw [← maV_set (t' := ⟨x.b1, x.b2, x.t, x.gv, x.sl, min x.fr (((xs9.length : Int)) + ((y2.Y.length : Int))), x.wr⟩) hx rfl] at hM
            replace hM := hM.front (k := 11) rfl
            replace hM := hM.front (k := 11) rfl
            replace hM := hM.front (k := 2) rfl
            replace hM := hM.front (k := 11) rfl
            replace hM := hM.front (k := 11) rfl
            replace hM := hM.front (k := 11) rfl
            replace hM := hM.front (k := 11) rfl
            replace hM := hM.front (k := 10) rfl
            replace hM := hM.front (k := 10) rfl
            replace hM := hM.front (k := 10) rfl
            replace hM : Mem _ _ [pt q4 #[.pointer (some ⟨m5, 0, none⟩), .int .i64 3, .slice (some ⟨nb7, 0, none⟩) n.toNat n.toNat, .slice (some ⟨ob8, 0, none⟩) 4 4] 128, pt ob8 ((vals ((gs.set n20 ⟨Y9, a9, c9⟩).map owV))) 43, bundle ((gs.set n20 ⟨Y9, a9, c9⟩).map owC), memO m5 c6 l9 s9 o9, pt wb10 #[.slice (some ⟨gH, 0, none⟩) H.length c12] 93, own 3 1 (.slice (some ⟨gH, 0, none⟩) H.length c12) H.length (H.map (Value.int .i64)), pt b13 ((vals ((ms2.set k (some ⟨x.b1, x.b2, x.t, x.gv, x.sl, min x.fr (((xs9.length : Int)) + ((y2.Y.length : Int))), x.wr⟩)).map maV))) 98, bundle ((ms2.set k (some ⟨x.b1, x.b2, x.t, x.gv, x.sl, min x.fr (((xs9.length : Int)) + ((y2.Y.length : Int))), x.wr⟩)).map (maC q4)), pt b15 ((vals (hs.map owV))) 65, bundle (hs.map owC), own 3 1 (.slice a53 y2.Y.length c54) y2.Y.length (y2.Y.map (Value.int .i64)), own 3 1 (.slice a51 xs9.length c52) xs9.length (xs9.map (Value.int .i64))] _ := hM
            replace hM : Mem _ _ [pt q4 #[.pointer (some ⟨m5, 0, none⟩), .int .i64 3, .slice (some ⟨nb7, 0, none⟩) n.toNat n.toNat, .slice (some ⟨ob8, 0, none⟩) 4 4] 128, pt ob8 ((vals ((gs.set n20 ⟨Y9, a9, c9⟩).map owV))) 43, bundle ((gs.set n20 ⟨Y9, a9, c9⟩).map owC), memO m5 c6 l9 s9 o9, pt wb10 #[.slice (some ⟨gH, 0, none⟩) H.length c12] 93, own 3 1 (.slice (some ⟨gH, 0, none⟩) H.length c12) H.length (H.map (Value.int .i64)), pt b13 ((vals ((ms2.set k (some ⟨x.b1, x.b2, x.t, x.gv, x.sl, min x.fr (((xs9.length : Int)) + ((y2.Y.length : Int))), x.wr⟩)).map maV))) 98, bundle ((ms2.set k (some ⟨x.b1, x.b2, x.t, x.gv, x.sl, min x.fr (((xs9.length : Int)) + ((y2.Y.length : Int))), x.wr⟩)).map (maC q4)), pt b15 ((vals (hs.map owV))) 65, bundle (hs.map owC)] _ := hM.firstN 10
            exact hNext1 ((k + 1, (ms2.set k (some ⟨x.b1, x.b2, x.t, x.gv, x.sl, min x.fr (((xs9.length : Int)) + ((y2.Y.length : Int))), x.wr⟩)))) _ _ ((by show 4 - (k + 1) < 4 - k; omega)) ⟨hA.sub ((.cons rfl (.cons rfl (.cons rfl (.cons rfl (.cons rfl (.cons rfl (.cons rfl (.cons rfl (.cons rfl (.cons rfl (.cons rfl (.cons rfl .nil))))))))))))), hM, (by omega), (er_set her hx _), (fun j z y hj hz hy => by rcases set_cases hz with ⟨e, e2⟩ | ⟨hne, hz2⟩; subst e; obtain rfl := Option.some.inj e2; rw [hy2] at hy; obtain rfl := Option.some.inj hy; exact Int.min_le_right _ _; exact hfr j z y (by omega) hz2 hy)⟩
        ·
          refine Ends.exit rfl ?_
          replace hA : St 321 [(0, _), (1, _), (5, _), (6, _), (8, _), (9, _), (10, _), (11, _), (13, _), (16, _), (18, _)] a := hA.sub ((.cons rfl (.cons rfl (.cons rfl (.cons rfl (.cons rfl (.cons rfl (.cons rfl (.cons rfl (.cons rfl (.cons rfl (.cons rfl .nil))))))))))))
          refine Ends.seq ?_
          refine Ends.seq ?_
          have hke : k = 4 := by omega
          subst hke
          have hml2 : ms2.length = 4 := by rw [er_len her, List.length_set]; exact hml
          have hts2 : tsOf ms2 = (tsOf ms).set n20 (some t9) := by rw [er_ts her, tsOf_set]; rfl
          obtain ⟨fr2, hms2⟩ := er_fr her (j := n20) (List.getElem?_set_self (by omega))
          have hfr2 : fr2 ≤ (xs9.length : Int) + (Y9.length : Int) := hfr n20 _ _ (by omega) hms2 (List.getElem?_set_self (by omega))
          by_cases hs55 : t9.ph = 3
          ·
            rw [decide_eq_true hs55] at hA
            replace hM := hM.front (k := 7) rfl
            replace hM : Mem _ _ [bundle (ms2.map (maC q4)), pt q4 #[.pointer (some ⟨m5, 0, none⟩), .int .i64 3, .slice (some ⟨nb7, 0, none⟩) n.toNat n.toNat, .slice (some ⟨ob8, 0, none⟩) 4 4] 128, pt ob8 ((vals ((gs.set n20 ⟨Y9, a9, c9⟩).map owV))) 43, bundle ((gs.set n20 ⟨Y9, a9, c9⟩).map owC), memO m5 c6 l9 s9 o9, pt wb10 #[.slice (some ⟨gH, 0, none⟩) H.length c12] 93, own 3 1 (.slice (some ⟨gH, 0, none⟩) H.length c12) H.length (H.map (Value.int .i64)), pt b13 ((vals (ms2.map maV))) 98, pt b15 ((vals (hs.map owV))) 65, bundle (hs.map owC)] _ := hM
            replace hM : Mem _ _ [pt t.b1 #[.pointer (some ⟨t.b2, 0, none⟩), .bool t.gv, .int .i64 t.sl, .int .i64 fr2] 102, pt t.b2 #[.pointer (some ⟨q4, 0, none⟩), .int .i64 n20, .bool t9.give, .int .i64 t9.slot, .int .i64 t9.ph, .int .i64 t9.top, .int .i64 t9.next] 131, bundle ((ms2.eraseIdx n20).map (maC q4)), pt q4 #[.pointer (some ⟨m5, 0, none⟩), .int .i64 3, .slice (some ⟨nb7, 0, none⟩) n.toNat n.toNat, .slice (some ⟨ob8, 0, none⟩) 4 4] 128, pt ob8 ((vals ((gs.set n20 ⟨Y9, a9, c9⟩).map owV))) 43, bundle ((gs.set n20 ⟨Y9, a9, c9⟩).map owC), memO m5 c6 l9 s9 o9, pt wb10 #[.slice (some ⟨gH, 0, none⟩) H.length c12] 93, own 3 1 (.slice (some ⟨gH, 0, none⟩) H.length c12) H.length (H.map (Value.int .i64)), pt b13 ((vals (ms2.map maV))) 98, pt b15 ((vals (hs.map owV))) 65, bundle (hs.map owC)] _ := (hM.openB hms2).unpack
            have ha := hg.acts _ _ (tsOf_at hmj)
            refine Ends.region ?_
            refine S.val hA (R.move rfl) rfl ?_; clear hA a; intro a hA
            refine S.val hA (R.not rfl) rfl ?_; clear hA a; intro a hA
            refine S.done ?_
            replace hA : St 321 [(0, _), (1, _), (5, _), (6, _), (8, _), (9, _), (10, _), (11, _), (13, _), (16, _), (185, _)] a := hA.sub ((.cons rfl (.cons rfl (.cons rfl (.cons rfl (.cons rfl (.cons rfl (.cons rfl (.cons rfl (.cons rfl (.cons rfl (.cons rfl .nil))))))))))))
            refine Ends.condF hA rfl ?_
            refine Ends.skip ?_
            refine Ends.seq ?_
            refine Ends.region ?_
            refine S.val hA (R.move rfl) rfl ?_; clear hA a; intro a hA
            refine S.val hA (R.indexAddrA (q := n20) ar98 rfl rfl (by first | omega | (simp; done)) (by first | omega | (simp; done))) rfl ?_; clear hA a; intro a hA
            refine S.store (k := 9) hA hM sz97 rfl rfl rfl rfl (vals_get _ _ (by first | omega | (rw [List.length_map]; omega))) ?_; clear hM
            intro w35 hM
            rw [vals_set] at hM
            replace hM : Mem _ _ [pt t.b1 #[.pointer (some ⟨t.b2, 0, none⟩), .bool t.gv, .int .i64 t.sl, .int .i64 fr2] 102, pt t.b2 #[.pointer (some ⟨q4, 0, none⟩), .int .i64 n20, .bool t9.give, .int .i64 t9.slot, .int .i64 t9.ph, .int .i64 t9.top, .int .i64 t9.next] 131, bundle ((ms2.eraseIdx n20).map (maC q4)), pt q4 #[.pointer (some ⟨m5, 0, none⟩), .int .i64 3, .slice (some ⟨nb7, 0, none⟩) n.toNat n.toNat, .slice (some ⟨ob8, 0, none⟩) 4 4] 128, pt ob8 ((vals ((gs.set n20 ⟨Y9, a9, c9⟩).map owV))) 43, bundle ((gs.set n20 ⟨Y9, a9, c9⟩).map owC), memO m5 c6 l9 s9 o9, pt wb10 #[.slice (some ⟨gH, 0, none⟩) H.length c12] 93, own 3 1 (.slice (some ⟨gH, 0, none⟩) H.length c12) H.length (H.map (Value.int .i64)), pt b13 ((vals (((ms2.map maV)).set n20 (.pointer none)))) 98, pt b15 ((vals (hs.map owV))) 65, bundle (hs.map owC)] _ := hM
            refine S.done ?_
            replace hA : St 321 [(0, _), (1, _), (5, _), (6, _), (8, _), (9, _), (10, _), (11, _), (13, _), (16, _)] a := hA.sub ((.cons rfl (.cons rfl (.cons rfl (.cons rfl (.cons rfl (.cons rfl (.cons rfl (.cons rfl (.cons rfl (.cons rfl .nil)))))))))))
            refine Ends.seq ?_
            refine Ends.region ?_
            refine S.val hA (R.move rfl) rfl ?_; clear hA a; intro a hA
            refine S.val hA (R.nilCheck rfl) rfl ?_; clear hA a; intro a hA
            refine S.val hA (R.fieldAddr (q := 0) fi102_0 rfl rfl rfl) rfl ?_; clear hA a; intro a hA
            refine S.val hA (R.load sz83 rfl (hM.cell (k := 0) rfl rfl)) rfl ?_; clear hA a; intro a hA
            refine S.call hA (R.callF Try.func56 rfl rfl rfl) rfl (pact_slot t.b2 q4 (n20 : Int) t9 hs55 _ (hM.block (k := 1) rfl)) ?_; clear hA a
            rintro e w36 ⟨rfl, rfl⟩
            refine ⟨.int .i64 t9.slot, rfl, fun a hA => ?_⟩
            refine S.val hA (R.assign rfl) rfl ?_; clear hA a; intro a hA
            refine S.done ?_
            replace hA : St 321 [(0, _), (1, _), (5, _), (6, _), (8, _), (9, _), (10, _), (11, _), (13, _), (16, _), (20, _)] a := hA.sub ((.cons rfl (.cons rfl (.cons rfl (.cons rfl (.cons rfl (.cons rfl (.cons rfl (.cons rfl (.cons rfl (.cons rfl (.cons rfl .nil))))))))))))
            refine Ends.seq ?_
            refine Ends.seq ?_
            by_cases hs56 : t.gv = true
            ·
              have hgv := hs56
              have hgt : t.t.give = true := hk2.symm.trans hgv
              rw [hgv] at hM
              obtain ⟨xs8, hsl8, hgi8⟩ := pout_gave hpo hs55 hgt
              replace hsl8 : t9.slot = t.t.slot := hsl8
              rw [← hsl8] at hgi8
              have hsl7 : t9.slot = t.sl := hsl8.trans (hk3 hgv).symm
              have hrg := ha.1.1 hgt
              have hHl := hg.held.1
              have hsl6 := hk3 hgv
              refine Ends.region ?_
              refine S.val hA (R.move rfl) rfl ?_; clear hA a; intro a hA
              refine S.val hA (R.nilCheck rfl) rfl ?_; clear hA a; intro a hA
              refine S.val hA (R.fieldAddr (q := 1) fi102_1 rfl rfl rfl) rfl ?_; clear hA a; intro a hA
              refine S.val hA (R.load sz4 rfl (hM.cell (k := 0) rfl rfl)) rfl ?_; clear hA a; intro a hA
              refine S.done ?_
              replace hA : St 321 [(0, _), (1, _), (5, _), (6, _), (8, _), (9, _), (10, _), (11, _), (13, _), (16, _), (20, _), (196, _)] a := hA.sub ((.cons rfl (.cons rfl (.cons rfl (.cons rfl (.cons rfl (.cons rfl (.cons rfl (.cons rfl (.cons rfl (.cons rfl (.cons rfl (.cons rfl .nil)))))))))))))
              refine Ends.condT hA rfl ?_
              refine Ends.seq ?_
              refine Ends.seq ?_
              refine Ends.region ?_
              refine S.val hA (R.move rfl) rfl ?_; clear hA a; intro a hA
              refine S.val hA (R.move rfl) rfl ?_; clear hA a; intro a hA
              refine S.val hA (R.nilCheck rfl) rfl ?_; clear hA a; intro a hA
              refine S.val hA (R.fieldAddr (q := 2) fi102_2 rfl rfl rfl) rfl ?_; clear hA a; intro a hA
              refine S.val hA (R.load sz3 rfl (hM.cell (k := 0) rfl rfl)) rfl ?_; clear hA a; intro a hA
              refine S.val hA (R.ff (R.neq rfl rfl) (by first | omega | (simp; done))) rfl ?_; clear hA a; intro a hA
              refine S.done ?_
              replace hA : St 321 [(0, _), (1, _), (5, _), (6, _), (8, _), (9, _), (10, _), (11, _), (13, _), (16, _), (20, _), (202, _)] a := hA.sub ((.cons rfl (.cons rfl (.cons rfl (.cons rfl (.cons rfl (.cons rfl (.cons rfl (.cons rfl (.cons rfl (.cons rfl (.cons rfl (.cons rfl .nil)))))))))))))
              refine Ends.condF hA rfl ?_
              refine Ends.skip ?_
              refine Ends.seq ?_
              refine Ends.region ?_
              refine S.val hA (R.move rfl) rfl ?_; clear hA a; intro a hA
              refine S.val hA (R.nilCheck rfl) rfl ?_; clear hA a; intro a hA
              refine S.val hA (R.fieldAddr (q := 0) fi93_0 rfl rfl rfl) rfl ?_; clear hA a; intro a hA
              refine S.val hA (R.load sz43 rfl (hM.cell (k := 7) rfl rfl)) rfl ?_; clear hA a; intro a hA
              refine S.val hA (R.move rfl) rfl ?_; clear hA a; intro a hA
              refine S.val hA (R.indexAddr (q := t9.slot.toNat) sl43 rfl rfl (by first | omega | (simp; done)) (by first | omega | (simp; done))) rfl ?_; clear hA a; intro a hA
              refine S.storeO (k := 8) hA hM sz3 rfl rfl rfl rfl (mapi_get H t9.slot.toNat (by first | omega | (simp; done))) ?_; clear hM; intro w37 hM; rw [mapi_set] at hM
              replace hM : Mem _ _ [pt t.b1 #[.pointer (some ⟨t.b2, 0, none⟩), .bool true, .int .i64 t.sl, .int .i64 fr2] 102, pt t.b2 #[.pointer (some ⟨q4, 0, none⟩), .int .i64 n20, .bool t9.give, .int .i64 t9.slot, .int .i64 t9.ph, .int .i64 t9.top, .int .i64 t9.next] 131, bundle ((ms2.eraseIdx n20).map (maC q4)), pt q4 #[.pointer (some ⟨m5, 0, none⟩), .int .i64 3, .slice (some ⟨nb7, 0, none⟩) n.toNat n.toNat, .slice (some ⟨ob8, 0, none⟩) 4 4] 128, pt ob8 ((vals ((gs.set n20 ⟨Y9, a9, c9⟩).map owV))) 43, bundle ((gs.set n20 ⟨Y9, a9, c9⟩).map owC), memO m5 c6 l9 s9 o9, pt wb10 #[.slice (some ⟨gH, 0, none⟩) H.length c12] 93, own 3 1 (.slice (some ⟨gH, 0, none⟩) H.length c12) H.length (((H.set t9.slot.toNat (-1))).map (Value.int .i64)), pt b13 ((vals (((ms2.map maV)).set n20 (.pointer none)))) 98, pt b15 ((vals (hs.map owV))) 65, bundle (hs.map owC)] _ := hM
              refine S.done ?_
              replace hA : St 321 [(0, _), (1, _), (5, _), (6, _), (8, _), (9, _), (10, _), (11, _), (13, _), (16, _), (20, _)] a := hA.sub ((.cons rfl (.cons rfl (.cons rfl (.cons rfl (.cons rfl (.cons rfl (.cons rfl (.cons rfl (.cons rfl (.cons rfl (.cons rfl .nil))))))))))))
              refine Ends.exit rfl ?_
              replace hA : St 321 [(0, _), (1, _), (5, _), (6, _), (8, _), (9, _), (10, _), (11, _)] a := hA.sub ((.cons rfl (.cons rfl (.cons rfl (.cons rfl (.cons rfl (.cons rfl (.cons rfl (.cons rfl .nil)))))))))
              refine Ends.region ?_
              refine S.val hA (R.move rfl) rfl ?_; clear hA a; intro a hA
              refine S.val hA (R.addI rfl rfl (r := ((i : Int)) + 1) rfl (by first | omega | (simp; done))) rfl ?_; clear hA a; intro a hA
              refine S.val hA (R.assign rfl) rfl ?_; clear hA a; intro a hA
              refine S.done ?_
              replace hA : St 321 [(0, _), (1, _), (5, _), (6, _), (8, _), (9, _), (10, _), (11, _)] a := hA.sub ((.cons rfl (.cons rfl (.cons rfl (.cons rfl (.cons rfl (.cons rfl (.cons rfl (.cons rfl .nil)))))))))
              rw [show H.length = ((H.set t9.slot.toNat (-1))).length by simp] at hM
              have hts3 : tsOf (ms2.set n20 none) = (tsOf ms).set n20 none := by rw [tsOf_set, hts2, List.set_set]; rfl
              replace hM := hM.front (k := 2) rfl
              replace hM : Mem _ _ [bundle ((ms2.eraseIdx n20).map (maC q4)), pt t.b1 #[.pointer (some ⟨t.b2, 0, none⟩), .bool true, .int .i64 t.sl, .int .i64 fr2] 102, pt t.b2 #[.pointer (some ⟨q4, 0, none⟩), .int .i64 n20, .bool t9.give, .int .i64 t9.slot, .int .i64 t9.ph, .int .i64 t9.top, .int .i64 t9.next] 131, pt q4 #[.pointer (some ⟨m5, 0, none⟩), .int .i64 3, .slice (some ⟨nb7, 0, none⟩) n.toNat n.toNat, .slice (some ⟨ob8, 0, none⟩) 4 4] 128, pt ob8 ((vals ((gs.set n20 ⟨Y9, a9, c9⟩).map owV))) 43, bundle ((gs.set n20 ⟨Y9, a9, c9⟩).map owC), memO m5 c6 l9 s9 o9, pt wb10 #[.slice (some ⟨gH, 0, none⟩) (((H.set t9.slot.toNat (-1))).length) c12] 93, own 3 1 (.slice (some ⟨gH, 0, none⟩) (((H.set t9.slot.toNat (-1))).length) c12) (((H.set t9.slot.toNat (-1))).length) (((H.set t9.slot.toNat (-1))).map (Value.int .i64)), pt b13 ((vals (((ms2.map maV)).set n20 (.pointer none)))) 98, pt b15 ((vals (hs.map owV))) 65, bundle (hs.map owC)] _ := hM
              replace hM := hM.addEmp0.closeB (f := maC q4) (y := (none : MS)) hms2
              rw [show (ms2.map maV).set n20 (.pointer none) = (ms2.set n20 none).map maV by rw [List.map_set]; rfl] at hM
              replace hM := hM.front (k := 11) rfl
              replace hM := hM.front (k := 11) rfl
              replace hM := hM.front (k := 2) rfl
              replace hM := hM.front (k := 11) rfl
              replace hM := hM.front (k := 11) rfl
              replace hM := hM.front (k := 11) rfl
              replace hM := hM.front (k := 11) rfl
              replace hM := hM.front (k := 11) rfl
              replace hM := hM.front (k := 11) rfl
              replace hM := hM.front (k := 11) rfl
              replace hM : Mem _ _ [pt q4 #[.pointer (some ⟨m5, 0, none⟩), .int .i64 3, .slice (some ⟨nb7, 0, none⟩) n.toNat n.toNat, .slice (some ⟨ob8, 0, none⟩) 4 4] 128, pt ob8 ((vals ((gs.set n20 ⟨Y9, a9, c9⟩).map owV))) 43, bundle ((gs.set n20 ⟨Y9, a9, c9⟩).map owC), memO m5 c6 l9 s9 o9, pt wb10 #[.slice (some ⟨gH, 0, none⟩) (((H.set t9.slot.toNat (-1))).length) c12] 93, own 3 1 (.slice (some ⟨gH, 0, none⟩) (((H.set t9.slot.toNat (-1))).length) c12) (((H.set t9.slot.toNat (-1))).length) (((H.set t9.slot.toNat (-1))).map (Value.int .i64)), pt b13 ((vals ((ms2.set n20 none).map maV))) 98, bundle ((ms2.set n20 none).map (maC q4)), pt b15 ((vals (hs.map owV))) 65, bundle (hs.map owC), pt t.b1 #[.pointer (some ⟨t.b2, 0, none⟩), .bool true, .int .i64 t.sl, .int .i64 fr2] 102, pt t.b2 #[.pointer (some ⟨q4, 0, none⟩), .int .i64 n20, .bool t9.give, .int .i64 t9.slot, .int .i64 t9.ph, .int .i64 t9.top, .int .i64 t9.next] 131] _ := hM
              replace hM : Mem _ _ [pt q4 #[.pointer (some ⟨m5, 0, none⟩), .int .i64 3, .slice (some ⟨nb7, 0, none⟩) n.toNat n.toNat, .slice (some ⟨ob8, 0, none⟩) 4 4] 128, pt ob8 ((vals ((gs.set n20 ⟨Y9, a9, c9⟩).map owV))) 43, bundle ((gs.set n20 ⟨Y9, a9, c9⟩).map owC), memO m5 c6 l9 s9 o9, pt wb10 #[.slice (some ⟨gH, 0, none⟩) (((H.set t9.slot.toNat (-1))).length) c12] 93, own 3 1 (.slice (some ⟨gH, 0, none⟩) (((H.set t9.slot.toNat (-1))).length) c12) (((H.set t9.slot.toNat (-1))).length) (((H.set t9.slot.toNat (-1))).map (Value.int .i64)), pt b13 ((vals ((ms2.set n20 none).map maV))) 98, bundle ((ms2.set n20 none).map (maC q4)), pt b15 ((vals (hs.map owV))) 65, bundle (hs.map owC)] _ := hM.firstN 10
              exact hNext ((i + 1, V + 1, l9, xs8, (H.set t9.slot.toNat (-1)), s9, o9, (gs.set n20 ⟨Y9, a9, c9⟩), (ms2.set n20 none), hs)) _ _ ((by show 300 - (i + 1) < 300 - i; omega)) ⟨hA.sub ((.cons rfl (.cons rfl (.cons rfl (.cons rfl (.cons rfl (.cons rfl (.cons rfl (.cons rfl .nil))))))))), hM, (by omega), (by rw [show ((gs.set n20 ⟨Y9, a9, c9⟩).map (·.Y)) = (gs.map (·.Y)).set n20 Y9 by rw [List.map_set]]; rw [hts3]; exact hgi8), (by rw [List.length_set]; exact hgl), (by rw [List.length_set]; exact hml2), hhl, (mok_none her hmok), (by rw [hts3]; exact hold_gave hhold (by rw [hsl8]; exact (ha.1.1 hgt).1) (by rw [hsl8]; exact ha.2.2.1 hgt) (fun Y hY => by rw [hsl8]; exact (hhold _ Y hY).2.2 t.t (tsOf_at hmj) hgt)), (by omega), (by omega)⟩
            ·
              have hgv : t.gv = false := by simpa using hs56
              have hgt : t.t.give = false := hk2.symm.trans hgv
              rw [hgv] at hM
              refine Ends.region ?_
              refine S.val hA (R.move rfl) rfl ?_; clear hA a; intro a hA
              refine S.val hA (R.nilCheck rfl) rfl ?_; clear hA a; intro a hA
              refine S.val hA (R.fieldAddr (q := 1) fi102_1 rfl rfl rfl) rfl ?_; clear hA a; intro a hA
              refine S.val hA (R.load sz4 rfl (hM.cell (k := 0) rfl rfl)) rfl ?_; clear hA a; intro a hA
              refine S.done ?_
              replace hA : St 321 [(0, _), (1, _), (5, _), (6, _), (8, _), (9, _), (10, _), (11, _), (13, _), (16, _), (20, _), (196, _)] a := hA.sub ((.cons rfl (.cons rfl (.cons rfl (.cons rfl (.cons rfl (.cons rfl (.cons rfl (.cons rfl (.cons rfl (.cons rfl (.cons rfl (.cons rfl .nil)))))))))))))
              refine Ends.condF hA rfl ?_
              refine Ends.skip ?_
              refine Ends.seq ?_
              refine Ends.seq ?_
              by_cases hs57 : t9.slot = -1
              ·
                obtain ⟨hY9, hgi8⟩ := pout_empty hpo hs55 hgt hs57
                replace hY9 : Y9 = [] := hY9
                have hx9 := chn_uniq hlk9.chn hgi8.chn
                have hfr3 : fr2 ≤ 0 := by rw [hx9, hY9] at hfr2; simpa using hfr2
                refine Ends.region ?_
                refine S.val hA (R.move rfl) rfl ?_; clear hA a; intro a hA
                refine S.val hA (R.tt (R.eql rfl rfl) (by first | omega | (simp; done))) rfl ?_; clear hA a; intro a hA
                refine S.done ?_
                replace hA : St 321 [(0, _), (1, _), (5, _), (6, _), (8, _), (9, _), (10, _), (11, _), (13, _), (16, _), (20, _), (210, _)] a := hA.sub ((.cons rfl (.cons rfl (.cons rfl (.cons rfl (.cons rfl (.cons rfl (.cons rfl (.cons rfl (.cons rfl (.cons rfl (.cons rfl (.cons rfl .nil)))))))))))))
                refine Ends.condT hA rfl ?_
                refine Ends.seq ?_
                refine Ends.seq ?_
                refine Ends.region ?_
                refine S.val hA (R.move rfl) rfl ?_; clear hA a; intro a hA
                refine S.val hA (R.nilCheck rfl) rfl ?_; clear hA a; intro a hA
                refine S.val hA (R.fieldAddr (q := 3) fi102_3 rfl rfl rfl) rfl ?_; clear hA a; intro a hA
                refine S.val hA (R.load sz3 rfl (hM.cell (k := 0) rfl rfl)) rfl ?_; clear hA a; intro a hA
                refine S.val hA (R.ff (R.gtr rfl rfl) (by first | omega | (simp; done))) rfl ?_; clear hA a; intro a hA
                refine S.done ?_
                replace hA : St 321 [(0, _), (1, _), (5, _), (6, _), (8, _), (9, _), (10, _), (11, _), (13, _), (20, _), (215, _)] a := hA.sub ((.cons rfl (.cons rfl (.cons rfl (.cons rfl (.cons rfl (.cons rfl (.cons rfl (.cons rfl (.cons rfl (.cons rfl (.cons rfl .nil))))))))))))
                refine Ends.condF hA rfl ?_
                refine Ends.skip ?_
                refine Ends.exit rfl ?_
                replace hA : St 321 [(0, _), (1, _), (5, _), (6, _), (8, _), (9, _), (10, _), (11, _)] a := hA.sub ((.cons rfl (.cons rfl (.cons rfl (.cons rfl (.cons rfl (.cons rfl (.cons rfl (.cons rfl .nil)))))))))
                refine Ends.region ?_
                refine S.val hA (R.move rfl) rfl ?_; clear hA a; intro a hA
                refine S.val hA (R.addI rfl rfl (r := ((i : Int)) + 1) rfl (by first | omega | (simp; done))) rfl ?_; clear hA a; intro a hA
                refine S.val hA (R.assign rfl) rfl ?_; clear hA a; intro a hA
                refine S.done ?_
                replace hA : St 321 [(0, _), (1, _), (5, _), (6, _), (8, _), (9, _), (10, _), (11, _)] a := hA.sub ((.cons rfl (.cons rfl (.cons rfl (.cons rfl (.cons rfl (.cons rfl (.cons rfl (.cons rfl .nil)))))))))
                have hts3 : tsOf (ms2.set n20 none) = (tsOf ms).set n20 none := by rw [tsOf_set, hts2, List.set_set]; rfl
                replace hM := hM.front (k := 2) rfl
                replace hM : Mem _ _ [bundle ((ms2.eraseIdx n20).map (maC q4)), pt t.b1 #[.pointer (some ⟨t.b2, 0, none⟩), .bool false, .int .i64 t.sl, .int .i64 fr2] 102, pt t.b2 #[.pointer (some ⟨q4, 0, none⟩), .int .i64 n20, .bool t9.give, .int .i64 t9.slot, .int .i64 t9.ph, .int .i64 t9.top, .int .i64 t9.next] 131, pt q4 #[.pointer (some ⟨m5, 0, none⟩), .int .i64 3, .slice (some ⟨nb7, 0, none⟩) n.toNat n.toNat, .slice (some ⟨ob8, 0, none⟩) 4 4] 128, pt ob8 ((vals ((gs.set n20 ⟨Y9, a9, c9⟩).map owV))) 43, bundle ((gs.set n20 ⟨Y9, a9, c9⟩).map owC), memO m5 c6 l9 s9 o9, pt wb10 #[.slice (some ⟨gH, 0, none⟩) H.length c12] 93, own 3 1 (.slice (some ⟨gH, 0, none⟩) H.length c12) H.length (H.map (Value.int .i64)), pt b13 ((vals (((ms2.map maV)).set n20 (.pointer none)))) 98, pt b15 ((vals (hs.map owV))) 65, bundle (hs.map owC)] _ := hM
                replace hM := hM.addEmp0.closeB (f := maC q4) (y := (none : MS)) hms2
                rw [show (ms2.map maV).set n20 (.pointer none) = (ms2.set n20 none).map maV by rw [List.map_set]; rfl] at hM
                replace hM := hM.front (k := 11) rfl
                replace hM := hM.front (k := 11) rfl
                replace hM := hM.front (k := 2) rfl
                replace hM := hM.front (k := 11) rfl
                replace hM := hM.front (k := 11) rfl
                replace hM := hM.front (k := 11) rfl
                replace hM := hM.front (k := 11) rfl
                replace hM := hM.front (k := 11) rfl
                replace hM := hM.front (k := 11) rfl
                replace hM := hM.front (k := 11) rfl
                replace hM : Mem _ _ [pt q4 #[.pointer (some ⟨m5, 0, none⟩), .int .i64 3, .slice (some ⟨nb7, 0, none⟩) n.toNat n.toNat, .slice (some ⟨ob8, 0, none⟩) 4 4] 128, pt ob8 ((vals ((gs.set n20 ⟨Y9, a9, c9⟩).map owV))) 43, bundle ((gs.set n20 ⟨Y9, a9, c9⟩).map owC), memO m5 c6 l9 s9 o9, pt wb10 #[.slice (some ⟨gH, 0, none⟩) H.length c12] 93, own 3 1 (.slice (some ⟨gH, 0, none⟩) H.length c12) H.length (H.map (Value.int .i64)), pt b13 ((vals ((ms2.set n20 none).map maV))) 98, bundle ((ms2.set n20 none).map (maC q4)), pt b15 ((vals (hs.map owV))) 65, bundle (hs.map owC), pt t.b1 #[.pointer (some ⟨t.b2, 0, none⟩), .bool false, .int .i64 t.sl, .int .i64 fr2] 102, pt t.b2 #[.pointer (some ⟨q4, 0, none⟩), .int .i64 n20, .bool t9.give, .int .i64 t9.slot, .int .i64 t9.ph, .int .i64 t9.top, .int .i64 t9.next] 131] _ := hM
                replace hM : Mem _ _ [pt q4 #[.pointer (some ⟨m5, 0, none⟩), .int .i64 3, .slice (some ⟨nb7, 0, none⟩) n.toNat n.toNat, .slice (some ⟨ob8, 0, none⟩) 4 4] 128, pt ob8 ((vals ((gs.set n20 ⟨Y9, a9, c9⟩).map owV))) 43, bundle ((gs.set n20 ⟨Y9, a9, c9⟩).map owC), memO m5 c6 l9 s9 o9, pt wb10 #[.slice (some ⟨gH, 0, none⟩) H.length c12] 93, own 3 1 (.slice (some ⟨gH, 0, none⟩) H.length c12) H.length (H.map (Value.int .i64)), pt b13 ((vals ((ms2.set n20 none).map maV))) 98, bundle ((ms2.set n20 none).map (maC q4)), pt b15 ((vals (hs.map owV))) 65, bundle (hs.map owC)] _ := hM.firstN 10
                exact hNext ((i + 1, V, l9, [], H, s9, o9, (gs.set n20 ⟨Y9, a9, c9⟩), (ms2.set n20 none), hs)) _ _ ((by show 300 - (i + 1) < 300 - i; omega)) ⟨hA.sub ((.cons rfl (.cons rfl (.cons rfl (.cons rfl (.cons rfl (.cons rfl (.cons rfl (.cons rfl .nil))))))))), hM, (by omega), (by rw [show ((gs.set n20 ⟨Y9, a9, c9⟩).map (·.Y)) = (gs.map (·.Y)).set n20 Y9 by rw [List.map_set]]; rw [hts3]; exact hgi8), (by rw [List.length_set]; exact hgl), (by rw [List.length_set]; exact hml2), hhl, (mok_none her hmok), (by rw [hts3]; exact hold_act hhold (fun t ht => nomatch ht)), (by omega), (by omega)⟩
              ·
                obtain ⟨xs8, hsl9, hfr9, hgi8⟩ := pout_took hpo hs55 hgt hs57 (hk4 hgv)
                replace hsl9 : 0 ≤ t9.slot ∧ t9.slot < n := hsl9
                replace hfr9 : H.getD t9.slot.toNat 0 = -1 := hfr9
                have hHl := hg.held.1
                refine Ends.region ?_
                refine S.val hA (R.move rfl) rfl ?_; clear hA a; intro a hA
                refine S.val hA (R.ff (R.eql rfl rfl) (by first | omega | (simp; done))) rfl ?_; clear hA a; intro a hA
                refine S.done ?_
                replace hA : St 321 [(0, _), (1, _), (5, _), (6, _), (8, _), (9, _), (10, _), (11, _), (13, _), (16, _), (20, _), (210, _)] a := hA.sub ((.cons rfl (.cons rfl (.cons rfl (.cons rfl (.cons rfl (.cons rfl (.cons rfl (.cons rfl (.cons rfl (.cons rfl (.cons rfl (.cons rfl .nil)))))))))))))
                refine Ends.condF hA rfl ?_
                refine Ends.skip ?_
                refine Ends.seq ?_
                refine Ends.seq ?_
                refine Ends.region ?_
                refine S.val hA (R.move rfl) rfl ?_; clear hA a; intro a hA
                refine S.val hA (R.ff (R.lss rfl rfl) (by first | omega | (simp; done))) rfl ?_; clear hA a; intro a hA
                refine S.val hA (R.move rfl) rfl ?_; clear hA a; intro a hA
                refine S.valg (dj := 218) hA (by kernel_rfl) rfl (R.move rfl) rfl ?_; clear hA a; intro a hA
                refine S.valg (dj := 218) hA (by kernel_rfl) rfl (R.move rfl) rfl ?_; clear hA a; intro a hA
                refine S.valg (dj := 218) hA (by kernel_rfl) rfl (R.ff (R.geq rfl rfl) (by first | omega | (simp; done))) rfl ?_; clear hA a; intro a hA
                refine S.val hA (R.pickF rfl rfl) rfl ?_; clear hA a; intro a hA
                refine S.val hA (R.move rfl) rfl ?_; clear hA a; intro a hA
                refine S.valg (dj := 223) hA (by kernel_rfl) rfl (R.move rfl) rfl ?_; clear hA a; intro a hA
                refine S.valg (dj := 223) hA (by kernel_rfl) rfl (R.nilCheck rfl) rfl ?_; clear hA a; intro a hA
                refine S.valg (dj := 223) hA (by kernel_rfl) rfl (R.fieldAddr (q := 0) fi93_0 rfl rfl rfl) rfl ?_; clear hA a; intro a hA
                refine S.valg (dj := 223) hA (by kernel_rfl) rfl (R.load sz43 rfl (hM.cell (k := 7) rfl rfl)) rfl ?_; clear hA a; intro a hA
                refine S.valg (dj := 223) hA (by kernel_rfl) rfl (R.move rfl) rfl ?_; clear hA a; intro a hA
                refine S.valg (dj := 223) hA (by kernel_rfl) rfl (R.indexAddr (q := t9.slot.toNat) sl43 rfl rfl (by first | omega | (simp; done)) (by first | omega | (simp; done))) rfl ?_; clear hA a; intro a hA
                refine S.valg (dj := 223) hA (by kernel_rfl) rfl (R.load sz3 rfl (hM.ownCell (k := 8) rfl (mapi_get _ _ (by first | omega | (simp; done))))) rfl ?_; clear hA a; intro a hA
                refine S.valg (dj := 223) hA (by kernel_rfl) rfl (R.ff (R.neq rfl rfl) (by first | omega | (simp; done))) rfl ?_; clear hA a; intro a hA
                refine S.val hA (R.pickF rfl rfl) rfl ?_; clear hA a; intro a hA
                refine S.done ?_
                replace hA : St 321 [(0, _), (1, _), (5, _), (6, _), (8, _), (9, _), (10, _), (11, _), (13, _), (20, _), (232, _)] a := hA.sub ((.cons rfl (.cons rfl (.cons rfl (.cons rfl (.cons rfl (.cons rfl (.cons rfl (.cons rfl (.cons rfl (.cons rfl (.cons rfl .nil))))))))))))
                refine Ends.condF hA rfl ?_
                refine Ends.skip ?_
                refine Ends.seq ?_
                refine Ends.region ?_
                refine S.val hA (R.move rfl) rfl ?_; clear hA a; intro a hA
                refine S.val hA (R.nilCheck rfl) rfl ?_; clear hA a; intro a hA
                refine S.val hA (R.fieldAddr (q := 0) fi93_0 rfl rfl rfl) rfl ?_; clear hA a; intro a hA
                refine S.val hA (R.load sz43 rfl (hM.cell (k := 7) rfl rfl)) rfl ?_; clear hA a; intro a hA
                refine S.val hA (R.move rfl) rfl ?_; clear hA a; intro a hA
                refine S.val hA (R.move rfl) rfl ?_; clear hA a; intro a hA
                refine S.val hA (R.indexAddr (q := t9.slot.toNat) sl43 rfl rfl (by first | omega | (simp; done)) (by first | omega | (simp; done))) rfl ?_; clear hA a; intro a hA
                refine S.storeO (k := 8) hA hM sz3 rfl rfl rfl rfl (mapi_get H t9.slot.toNat (by first | omega | (simp; done))) ?_; clear hM; intro w38 hM; rw [mapi_set] at hM
                replace hM : Mem _ _ [pt t.b1 #[.pointer (some ⟨t.b2, 0, none⟩), .bool false, .int .i64 t.sl, .int .i64 fr2] 102, pt t.b2 #[.pointer (some ⟨q4, 0, none⟩), .int .i64 n20, .bool t9.give, .int .i64 t9.slot, .int .i64 t9.ph, .int .i64 t9.top, .int .i64 t9.next] 131, bundle ((ms2.eraseIdx n20).map (maC q4)), pt q4 #[.pointer (some ⟨m5, 0, none⟩), .int .i64 3, .slice (some ⟨nb7, 0, none⟩) n.toNat n.toNat, .slice (some ⟨ob8, 0, none⟩) 4 4] 128, pt ob8 ((vals ((gs.set n20 ⟨Y9, a9, c9⟩).map owV))) 43, bundle ((gs.set n20 ⟨Y9, a9, c9⟩).map owC), memO m5 c6 l9 s9 o9, pt wb10 #[.slice (some ⟨gH, 0, none⟩) H.length c12] 93, own 3 1 (.slice (some ⟨gH, 0, none⟩) H.length c12) H.length (((H.set t9.slot.toNat ((n20 : Int)))).map (Value.int .i64)), pt b13 ((vals (((ms2.map maV)).set n20 (.pointer none)))) 98, pt b15 ((vals (hs.map owV))) 65, bundle (hs.map owC)] _ := hM
                refine S.done ?_
                replace hA : St 321 [(0, _), (1, _), (5, _), (6, _), (8, _), (9, _), (10, _), (11, _), (13, _), (20, _)] a := hA.sub ((.cons rfl (.cons rfl (.cons rfl (.cons rfl (.cons rfl (.cons rfl (.cons rfl (.cons rfl (.cons rfl (.cons rfl .nil)))))))))))
                replace hM := hM.front (k := 11) rfl
                replace hM : Mem _ _ [bundle (hs.map owC), pt t.b1 #[.pointer (some ⟨t.b2, 0, none⟩), .bool false, .int .i64 t.sl, .int .i64 fr2] 102, pt t.b2 #[.pointer (some ⟨q4, 0, none⟩), .int .i64 n20, .bool t9.give, .int .i64 t9.slot, .int .i64 t9.ph, .int .i64 t9.top, .int .i64 t9.next] 131, bundle ((ms2.eraseIdx n20).map (maC q4)), pt q4 #[.pointer (some ⟨m5, 0, none⟩), .int .i64 3, .slice (some ⟨nb7, 0, none⟩) n.toNat n.toNat, .slice (some ⟨ob8, 0, none⟩) 4 4] 128, pt ob8 ((vals ((gs.set n20 ⟨Y9, a9, c9⟩).map owV))) 43, bundle ((gs.set n20 ⟨Y9, a9, c9⟩).map owC), memO m5 c6 l9 s9 o9, pt wb10 #[.slice (some ⟨gH, 0, none⟩) H.length c12] 93, own 3 1 (.slice (some ⟨gH, 0, none⟩) H.length c12) H.length (((H.set t9.slot.toNat ((n20 : Int)))).map (Value.int .i64)), pt b13 ((vals (((ms2.map maV)).set n20 (.pointer none)))) 98, pt b15 ((vals (hs.map owV))) 65] _ := hM
                replace hM : Mem _ _ [own 3 1 (.slice ah Yh.length ch) Yh.length (Yh.map (Value.int .i64)), bundle ((hs.eraseIdx n20).map owC), pt t.b1 #[.pointer (some ⟨t.b2, 0, none⟩), .bool false, .int .i64 t.sl, .int .i64 fr2] 102, pt t.b2 #[.pointer (some ⟨q4, 0, none⟩), .int .i64 n20, .bool t9.give, .int .i64 t9.slot, .int .i64 t9.ph, .int .i64 t9.top, .int .i64 t9.next] 131, bundle ((ms2.eraseIdx n20).map (maC q4)), pt q4 #[.pointer (some ⟨m5, 0, none⟩), .int .i64 3, .slice (some ⟨nb7, 0, none⟩) n.toNat n.toNat, .slice (some ⟨ob8, 0, none⟩) 4 4] 128, pt ob8 ((vals ((gs.set n20 ⟨Y9, a9, c9⟩).map owV))) 43, bundle ((gs.set n20 ⟨Y9, a9, c9⟩).map owC), memO m5 c6 l9 s9 o9, pt wb10 #[.slice (some ⟨gH, 0, none⟩) H.length c12] 93, own 3 1 (.slice (some ⟨gH, 0, none⟩) H.length c12) H.length (((H.set t9.slot.toNat ((n20 : Int)))).map (Value.int .i64)), pt b13 ((vals (((ms2.map maV)).set n20 (.pointer none)))) 98, pt b15 ((vals (hs.map owV))) 65] _ := hM.openB hyh
                refine Ends.region ?_
                refine S.val hA (R.move rfl) rfl ?_; clear hA a; intro a hA
                refine S.val hA (R.move rfl) rfl ?_; clear hA a; intro a hA
                refine S.val hA (R.indexAddrA (q := n20) ar65 rfl rfl (by first | omega | (simp; done)) (by first | omega | (simp; done))) rfl ?_; clear hA a; intro a hA
                refine S.val hA (R.load sz43 rfl (hM.cell (k := 12) rfl (vals_at _ _ _ (owV_at3 hyh)))) rfl ?_; clear hA a; intro a hA
                refine S.val hA (R.move rfl) rfl ?_; clear hA a; intro a hA
                refine S.buildSl (cells := #[.int .i64 t9.slot]) hA hM Try.underlying43 info3 rfl rfl rfl rfl (by kernel_rfl) rfl ?_; clear hA hM a; intro b58 w39 hb59 hM a hA
                replace hM : Mem _ _ [pt b58 #[.int .i64 t9.slot] 3, own 3 1 (.slice ah Yh.length ch) Yh.length (Yh.map (Value.int .i64)), bundle ((hs.eraseIdx n20).map owC), pt t.b1 #[.pointer (some ⟨t.b2, 0, none⟩), .bool false, .int .i64 t.sl, .int .i64 fr2] 102, pt t.b2 #[.pointer (some ⟨q4, 0, none⟩), .int .i64 n20, .bool t9.give, .int .i64 t9.slot, .int .i64 t9.ph, .int .i64 t9.top, .int .i64 t9.next] 131, bundle ((ms2.eraseIdx n20).map (maC q4)), pt q4 #[.pointer (some ⟨m5, 0, none⟩), .int .i64 3, .slice (some ⟨nb7, 0, none⟩) n.toNat n.toNat, .slice (some ⟨ob8, 0, none⟩) 4 4] 128, pt ob8 ((vals ((gs.set n20 ⟨Y9, a9, c9⟩).map owV))) 43, bundle ((gs.set n20 ⟨Y9, a9, c9⟩).map owC), memO m5 c6 l9 s9 o9, pt wb10 #[.slice (some ⟨gH, 0, none⟩) H.length c12] 93, own 3 1 (.slice (some ⟨gH, 0, none⟩) H.length c12) H.length (((H.set t9.slot.toNat ((n20 : Int)))).map (Value.int .i64)), pt b13 ((vals (((ms2.map maV)).set n20 (.pointer none)))) 98, pt b15 ((vals (hs.map owV))) 65] _ := hM
                refine S.append (k := 1) (k2 := 0) hA hM rfl rfl Try.underlying43 info3 rfl rfl rfl rfl rfl rfl rfl rfl rfl (by first | omega | (show _ ≤ (9223372036854775807 : Nat); omega) | (show (Yh.length + 1) * 8 ≤ _; omega) | (unfold maxLen; omega)) (by first | omega | (show _ ≤ (9223372036854775807 : Nat); omega) | (show (Yh.length + 1) * 8 ≤ _; omega) | (unfold maxLen; omega)) rfl ?_; clear hA hM a; intro a60 c61 w40 hM a hA
                replace hM : Mem _ _ [pt b58 #[.int .i64 t9.slot] 3, own 3 1 (.slice a60 (Yh.length + 1) c61) (Yh.length + 1) (Yh.map (Value.int .i64) ++ [.int .i64 t9.slot]), bundle ((hs.eraseIdx n20).map owC), pt t.b1 #[.pointer (some ⟨t.b2, 0, none⟩), .bool false, .int .i64 t.sl, .int .i64 fr2] 102, pt t.b2 #[.pointer (some ⟨q4, 0, none⟩), .int .i64 n20, .bool t9.give, .int .i64 t9.slot, .int .i64 t9.ph, .int .i64 t9.top, .int .i64 t9.next] 131, bundle ((ms2.eraseIdx n20).map (maC q4)), pt q4 #[.pointer (some ⟨m5, 0, none⟩), .int .i64 3, .slice (some ⟨nb7, 0, none⟩) n.toNat n.toNat, .slice (some ⟨ob8, 0, none⟩) 4 4] 128, pt ob8 ((vals ((gs.set n20 ⟨Y9, a9, c9⟩).map owV))) 43, bundle ((gs.set n20 ⟨Y9, a9, c9⟩).map owC), memO m5 c6 l9 s9 o9, pt wb10 #[.slice (some ⟨gH, 0, none⟩) H.length c12] 93, own 3 1 (.slice (some ⟨gH, 0, none⟩) H.length c12) H.length (((H.set t9.slot.toNat ((n20 : Int)))).map (Value.int .i64)), pt b13 ((vals (((ms2.map maV)).set n20 (.pointer none)))) 98, pt b15 ((vals (hs.map owV))) 65] _ := hM
                have hl62 : Yh.length + 1 = (Yh ++ [t9.slot]).length := by simp
                rw [hl62, show Yh.map (Value.int .i64) ++ [.int .i64 t9.slot] = (Yh ++ [t9.slot]).map (Value.int .i64) by simp] at hM; rw [hl62] at hA
                clear hl62
                replace hM := hM.drop 0
                replace hM : Mem _ _ [own 3 1 (.slice a60 (((Yh ++ [t9.slot])).length) c61) (((Yh ++ [t9.slot])).length) (((Yh ++ [t9.slot])).map (Value.int .i64)), bundle ((hs.eraseIdx n20).map owC), pt t.b1 #[.pointer (some ⟨t.b2, 0, none⟩), .bool false, .int .i64 t.sl, .int .i64 fr2] 102, pt t.b2 #[.pointer (some ⟨q4, 0, none⟩), .int .i64 n20, .bool t9.give, .int .i64 t9.slot, .int .i64 t9.ph, .int .i64 t9.top, .int .i64 t9.next] 131, bundle ((ms2.eraseIdx n20).map (maC q4)), pt q4 #[.pointer (some ⟨m5, 0, none⟩), .int .i64 3, .slice (some ⟨nb7, 0, none⟩) n.toNat n.toNat, .slice (some ⟨ob8, 0, none⟩) 4 4] 128, pt ob8 ((vals ((gs.set n20 ⟨Y9, a9, c9⟩).map owV))) 43, bundle ((gs.set n20 ⟨Y9, a9, c9⟩).map owC), memO m5 c6 l9 s9 o9, pt wb10 #[.slice (some ⟨gH, 0, none⟩) H.length c12] 93, own 3 1 (.slice (some ⟨gH, 0, none⟩) H.length c12) H.length (((H.set t9.slot.toNat ((n20 : Int)))).map (Value.int .i64)), pt b13 ((vals (((ms2.map maV)).set n20 (.pointer none)))) 98, pt b15 ((vals (hs.map owV))) 65] _ := hM
                refine S.val hA (R.indexAddrA (q := n20) ar65 rfl rfl (by first | omega | (simp; done)) (by first | omega | (simp; done))) rfl ?_; clear hA a; intro a hA
                refine S.store (k := 12) hA hM sz43 rfl rfl rfl rfl (vals_get _ _ (by first | omega | (rw [List.length_map]; omega))) ?_; clear hM
                intro w41 hM
                rw [vals_set] at hM
                replace hM : Mem _ _ [own 3 1 (.slice a60 (((Yh ++ [t9.slot])).length) c61) (((Yh ++ [t9.slot])).length) (((Yh ++ [t9.slot])).map (Value.int .i64)), bundle ((hs.eraseIdx n20).map owC), pt t.b1 #[.pointer (some ⟨t.b2, 0, none⟩), .bool false, .int .i64 t.sl, .int .i64 fr2] 102, pt t.b2 #[.pointer (some ⟨q4, 0, none⟩), .int .i64 n20, .bool t9.give, .int .i64 t9.slot, .int .i64 t9.ph, .int .i64 t9.top, .int .i64 t9.next] 131, bundle ((ms2.eraseIdx n20).map (maC q4)), pt q4 #[.pointer (some ⟨m5, 0, none⟩), .int .i64 3, .slice (some ⟨nb7, 0, none⟩) n.toNat n.toNat, .slice (some ⟨ob8, 0, none⟩) 4 4] 128, pt ob8 ((vals ((gs.set n20 ⟨Y9, a9, c9⟩).map owV))) 43, bundle ((gs.set n20 ⟨Y9, a9, c9⟩).map owC), memO m5 c6 l9 s9 o9, pt wb10 #[.slice (some ⟨gH, 0, none⟩) H.length c12] 93, own 3 1 (.slice (some ⟨gH, 0, none⟩) H.length c12) H.length (((H.set t9.slot.toNat ((n20 : Int)))).map (Value.int .i64)), pt b13 ((vals (((ms2.map maV)).set n20 (.pointer none)))) 98, pt b15 ((vals (((hs.map owV)).set n20 (.slice a60 (((Yh ++ [t9.slot])).length) c61)))) 65] _ := hM
                refine S.done ?_
                replace hA : St 321 [(0, _), (1, _), (5, _), (6, _), (8, _), (9, _), (10, _), (11, _)] a := hA.sub ((.cons rfl (.cons rfl (.cons rfl (.cons rfl (.cons rfl (.cons rfl (.cons rfl (.cons rfl .nil)))))))))
                refine Ends.inBlock ?_
                refine Ends.region ?_
                refine S.val hA (R.move rfl) rfl ?_; clear hA a; intro a hA
                refine S.val hA (R.addI rfl rfl (r := ((i : Int)) + 1) rfl (by first | omega | (simp; done))) rfl ?_; clear hA a; intro a hA
                refine S.val hA (R.assign rfl) rfl ?_; clear hA a; intro a hA
                refine S.done ?_
                replace hA : St 321 [(0, _), (1, _), (5, _), (6, _), (8, _), (9, _), (10, _), (11, _)] a := hA.sub ((.cons rfl (.cons rfl (.cons rfl (.cons rfl (.cons rfl (.cons rfl (.cons rfl (.cons rfl .nil)))))))))
                rw [show H.length = ((H.set t9.slot.toNat ((n20 : Int)))).length by simp] at hM
                have hts3 : tsOf (ms2.set n20 none) = (tsOf ms).set n20 none := by rw [tsOf_set, hts2, List.set_set]; rfl
                replace hM := hM.front (k := 4) rfl
                replace hM : Mem _ _ [bundle ((ms2.eraseIdx n20).map (maC q4)), own 3 1 (.slice a60 (((Yh ++ [t9.slot])).length) c61) (((Yh ++ [t9.slot])).length) (((Yh ++ [t9.slot])).map (Value.int .i64)), bundle ((hs.eraseIdx n20).map owC), pt t.b1 #[.pointer (some ⟨t.b2, 0, none⟩), .bool false, .int .i64 t.sl, .int .i64 fr2] 102, pt t.b2 #[.pointer (some ⟨q4, 0, none⟩), .int .i64 n20, .bool t9.give, .int .i64 t9.slot, .int .i64 t9.ph, .int .i64 t9.top, .int .i64 t9.next] 131, pt q4 #[.pointer (some ⟨m5, 0, none⟩), .int .i64 3, .slice (some ⟨nb7, 0, none⟩) n.toNat n.toNat, .slice (some ⟨ob8, 0, none⟩) 4 4] 128, pt ob8 ((vals ((gs.set n20 ⟨Y9, a9, c9⟩).map owV))) 43, bundle ((gs.set n20 ⟨Y9, a9, c9⟩).map owC), memO m5 c6 l9 s9 o9, pt wb10 #[.slice (some ⟨gH, 0, none⟩) (((H.set t9.slot.toNat ((n20 : Int)))).length) c12] 93, own 3 1 (.slice (some ⟨gH, 0, none⟩) (((H.set t9.slot.toNat ((n20 : Int)))).length) c12) (((H.set t9.slot.toNat ((n20 : Int)))).length) (((H.set t9.slot.toNat ((n20 : Int)))).map (Value.int .i64)), pt b13 ((vals (((ms2.map maV)).set n20 (.pointer none)))) 98, pt b15 ((vals (((hs.map owV)).set n20 (.slice a60 (((Yh ++ [t9.slot])).length) c61)))) 65] _ := hM
                replace hM := hM.addEmp0.closeB (f := maC q4) (y := (none : MS)) hms2
                rw [show (ms2.map maV).set n20 (.pointer none) = (ms2.set n20 none).map maV by rw [List.map_set]; rfl] at hM
                replace hM := hM.front (k := 2) rfl
                replace hM := hM.front (k := 2) rfl
                replace hM : Mem _ _ [own 3 1 (.slice a60 (((Yh ++ [t9.slot])).length) c61) (((Yh ++ [t9.slot])).length) (((Yh ++ [t9.slot])).map (Value.int .i64)), bundle ((hs.eraseIdx n20).map owC), bundle ((ms2.set n20 none).map (maC q4)), pt t.b1 #[.pointer (some ⟨t.b2, 0, none⟩), .bool false, .int .i64 t.sl, .int .i64 fr2] 102, pt t.b2 #[.pointer (some ⟨q4, 0, none⟩), .int .i64 n20, .bool t9.give, .int .i64 t9.slot, .int .i64 t9.ph, .int .i64 t9.top, .int .i64 t9.next] 131, pt q4 #[.pointer (some ⟨m5, 0, none⟩), .int .i64 3, .slice (some ⟨nb7, 0, none⟩) n.toNat n.toNat, .slice (some ⟨ob8, 0, none⟩) 4 4] 128, pt ob8 ((vals ((gs.set n20 ⟨Y9, a9, c9⟩).map owV))) 43, bundle ((gs.set n20 ⟨Y9, a9, c9⟩).map owC), memO m5 c6 l9 s9 o9, pt wb10 #[.slice (some ⟨gH, 0, none⟩) (((H.set t9.slot.toNat ((n20 : Int)))).length) c12] 93, own 3 1 (.slice (some ⟨gH, 0, none⟩) (((H.set t9.slot.toNat ((n20 : Int)))).length) c12) (((H.set t9.slot.toNat ((n20 : Int)))).length) (((H.set t9.slot.toNat ((n20 : Int)))).map (Value.int .i64)), pt b13 ((vals ((ms2.set n20 none).map maV))) 98, pt b15 ((vals (((hs.map owV)).set n20 (.slice a60 (((Yh ++ [t9.slot])).length) c61)))) 65] _ := hM
                replace hM := Mem.closeB (f := owC) (y := (⟨Yh ++ [t9.slot], a60, c61⟩ : OwS)) hM hyh
                have hhp : (hs.map owV).set n20 (.slice a60 (Yh ++ [t9.slot]).length c61) = (hs.set n20 (⟨Yh ++ [t9.slot], a60, c61⟩ : OwS)).map owV := by rw [List.map_set]; rfl
                rw [hhp] at hM
                replace hM := hM.front (k := 11) rfl
                replace hM := hM.front (k := 2) rfl
                replace hM := hM.front (k := 11) rfl
                replace hM := hM.front (k := 11) rfl
                replace hM := hM.front (k := 11) rfl
                replace hM := hM.front (k := 11) rfl
                replace hM := hM.front (k := 11) rfl
                replace hM := hM.front (k := 11) rfl
                replace hM := hM.front (k := 11) rfl
                replace hM : Mem _ _ [pt q4 #[.pointer (some ⟨m5, 0, none⟩), .int .i64 3, .slice (some ⟨nb7, 0, none⟩) n.toNat n.toNat, .slice (some ⟨ob8, 0, none⟩) 4 4] 128, pt ob8 ((vals ((gs.set n20 ⟨Y9, a9, c9⟩).map owV))) 43, bundle ((gs.set n20 ⟨Y9, a9, c9⟩).map owC), memO m5 c6 l9 s9 o9, pt wb10 #[.slice (some ⟨gH, 0, none⟩) (((H.set t9.slot.toNat ((n20 : Int)))).length) c12] 93, own 3 1 (.slice (some ⟨gH, 0, none⟩) (((H.set t9.slot.toNat ((n20 : Int)))).length) c12) (((H.set t9.slot.toNat ((n20 : Int)))).length) (((H.set t9.slot.toNat ((n20 : Int)))).map (Value.int .i64)), pt b13 ((vals ((ms2.set n20 none).map maV))) 98, bundle ((ms2.set n20 none).map (maC q4)), pt b15 ((vals ((hs.set n20 (⟨Yh ++ [t9.slot], a60, c61⟩ : OwS)).map owV))) 65, bundle ((hs.set n20 (⟨Yh ++ [t9.slot], a60, c61⟩ : OwS)).map owC), pt t.b1 #[.pointer (some ⟨t.b2, 0, none⟩), .bool false, .int .i64 t.sl, .int .i64 fr2] 102, pt t.b2 #[.pointer (some ⟨q4, 0, none⟩), .int .i64 n20, .bool t9.give, .int .i64 t9.slot, .int .i64 t9.ph, .int .i64 t9.top, .int .i64 t9.next] 131] _ := hM
                replace hM : Mem _ _ [pt q4 #[.pointer (some ⟨m5, 0, none⟩), .int .i64 3, .slice (some ⟨nb7, 0, none⟩) n.toNat n.toNat, .slice (some ⟨ob8, 0, none⟩) 4 4] 128, pt ob8 ((vals ((gs.set n20 ⟨Y9, a9, c9⟩).map owV))) 43, bundle ((gs.set n20 ⟨Y9, a9, c9⟩).map owC), memO m5 c6 l9 s9 o9, pt wb10 #[.slice (some ⟨gH, 0, none⟩) (((H.set t9.slot.toNat ((n20 : Int)))).length) c12] 93, own 3 1 (.slice (some ⟨gH, 0, none⟩) (((H.set t9.slot.toNat ((n20 : Int)))).length) c12) (((H.set t9.slot.toNat ((n20 : Int)))).length) (((H.set t9.slot.toNat ((n20 : Int)))).map (Value.int .i64)), pt b13 ((vals ((ms2.set n20 none).map maV))) 98, bundle ((ms2.set n20 none).map (maC q4)), pt b15 ((vals ((hs.set n20 (⟨Yh ++ [t9.slot], a60, c61⟩ : OwS)).map owV))) 65, bundle ((hs.set n20 (⟨Yh ++ [t9.slot], a60, c61⟩ : OwS)).map owC)] _ := hM.firstN 10
                exact hNext ((i + 1, V + 1, l9, xs8, (H.set t9.slot.toNat ((n20 : Int))), s9, o9, (gs.set n20 ⟨Y9, a9, c9⟩), (ms2.set n20 none), (hs.set n20 (⟨Yh ++ [t9.slot], a60, c61⟩ : OwS)))) _ _ ((by show 300 - (i + 1) < 300 - i; omega)) ⟨hA.sub ((.cons rfl (.cons rfl (.cons rfl (.cons rfl (.cons rfl (.cons rfl (.cons rfl (.cons rfl .nil))))))))), hM, (by omega), (by rw [show ((gs.set n20 ⟨Y9, a9, c9⟩).map (·.Y)) = (gs.map (·.Y)).set n20 Y9 by rw [List.map_set]]; rw [hts3]; exact hgi8), (by rw [List.length_set]; exact hgl), (by rw [List.length_set]; exact hml2), (by rw [List.length_set]; exact hhl), (mok_none her hmok), (by rw [hts3, List.map_set]; exact hold_took hhold hg.held.1 (Y := Yh) (by rw [List.getElem?_map, hyh]; rfl) hsl9 hfr9), (by omega), (by omega)⟩
          ·
            rw [decide_eq_false hs55] at hA
            refine Ends.region ?_
            refine S.val hA (R.move rfl) rfl ?_; clear hA a; intro a hA
            refine S.val hA (R.not rfl) rfl ?_; clear hA a; intro a hA
            refine S.done ?_
            replace hA : St 321 [(0, _), (1, _), (5, _), (6, _), (8, _), (9, _), (10, _), (11, _), (13, _), (16, _), (185, _)] a := hA.sub ((.cons rfl (.cons rfl (.cons rfl (.cons rfl (.cons rfl (.cons rfl (.cons rfl (.cons rfl (.cons rfl (.cons rfl (.cons rfl .nil))))))))))))
            refine Ends.condT hA rfl ?_
            refine Ends.exit rfl ?_
            replace hA : St 321 [(0, _), (1, _), (5, _), (6, _), (8, _), (9, _), (10, _), (11, _)] a := hA.sub ((.cons rfl (.cons rfl (.cons rfl (.cons rfl (.cons rfl (.cons rfl (.cons rfl (.cons rfl .nil)))))))))
            refine Ends.region ?_
            refine S.val hA (R.move rfl) rfl ?_; clear hA a; intro a hA
            refine S.val hA (R.addI rfl rfl (r := ((i : Int)) + 1) rfl (by first | omega | (simp; done))) rfl ?_; clear hA a; intro a hA
            refine S.val hA (R.assign rfl) rfl ?_; clear hA a; intro a hA
            refine S.done ?_
            replace hA : St 321 [(0, _), (1, _), (5, _), (6, _), (8, _), (9, _), (10, _), (11, _)] a := hA.sub ((.cons rfl (.cons rfl (.cons rfl (.cons rfl (.cons rfl (.cons rfl (.cons rfl (.cons rfl .nil)))))))))
            obtain ⟨xs8, hgi8, hgv8, hsl8⟩ := pout_on hpo hs55
            replace hM : Mem _ _ [pt q4 #[.pointer (some ⟨m5, 0, none⟩), .int .i64 3, .slice (some ⟨nb7, 0, none⟩) n.toNat n.toNat, .slice (some ⟨ob8, 0, none⟩) 4 4] 128, pt ob8 ((vals ((gs.set n20 ⟨Y9, a9, c9⟩).map owV))) 43, bundle ((gs.set n20 ⟨Y9, a9, c9⟩).map owC), memO m5 c6 l9 s9 o9, pt wb10 #[.slice (some ⟨gH, 0, none⟩) H.length c12] 93, own 3 1 (.slice (some ⟨gH, 0, none⟩) H.length c12) H.length (H.map (Value.int .i64)), pt b13 ((vals (ms2.map maV))) 98, bundle (ms2.map (maC q4)), pt b15 ((vals (hs.map owV))) 65, bundle (hs.map owC)] _ := hM.firstN 10
            exact hNext ((i + 1, V, l9, xs8, H, s9, o9, (gs.set n20 ⟨Y9, a9, c9⟩), ms2, hs)) _ _ ((by show 300 - (i + 1) < 300 - i; omega)) ⟨hA.sub ((.cons rfl (.cons rfl (.cons rfl (.cons rfl (.cons rfl (.cons rfl (.cons rfl (.cons rfl .nil))))))))), hM, (by omega), (by rw [show ((gs.set n20 ⟨Y9, a9, c9⟩).map (·.Y)) = (gs.map (·.Y)).set n20 Y9 by rw [List.map_set]]; rw [hts2]; exact hgi8), (by rw [List.length_set]; exact hgl), hml2, hhl, (er_mok her (mok_set hmok (fun y hy => by obtain rfl := Option.some.inj hy; exact ⟨rfl, hk2.trans hgv8.symm, fun h => (hk3 h).trans hsl8.symm, fun h => hsl8.trans (hk4 h)⟩))), (by rw [hts2]; exact hold_act hhold (fun t0 ht0 hg0 Y hY hm => by obtain rfl := Option.some.inj ht0; exact (hhold _ Y hY).2.2 t.t (tsOf_at hmj) (hgv8.symm.trans hg0) (hsl8 ▸ hm))), (by omega), (by omega)⟩
    ·
      refine Ends.exit rfl ?_
      replace hA : St 321 [(5, _), (8, _), (9, _)] a := hA.sub ((.cons rfl (.cons rfl (.cons rfl .nil))))
      refine Ends.seq ?_
      refine Ends.seq ?_
      refine Ends.region ?_
      refine S.val hA (R.assign rfl) rfl ?_; clear hA a; intro a hA
      refine S.done ?_
      replace hA : St 321 [(5, _), (8, _), (9, _), (21, _)] a := hA.sub ((.cons rfl (.cons rfl (.cons rfl (.cons rfl .nil)))))
      refine Ends.block ?_
      replace hM : Mem _ _ [pt q4 #[.pointer (some ⟨m5, 0, none⟩), .int .i64 3, .slice (some ⟨nb7, 0, none⟩) n.toNat n.toNat, .slice (some ⟨ob8, 0, none⟩) 4 4] 128, pt ob8 ((vals (gs.map owV))) 43, bundle (gs.map owC), memO m5 c6 l s op, pt wb10 #[.slice (some ⟨gH, 0, none⟩) H.length c12] 93, own 3 1 (.slice (some ⟨gH, 0, none⟩) H.length c12) H.length (H.map (Value.int .i64)), pt b13 ((vals (ms.map maV))) 98, bundle (ms.map (maC q4))] _ := hM.firstN 8
      refine Ends.loop (σ := Nat × Int × List Int × List Int × List Int × Int × CellOp × List OwS × List MS × List (Option PAct)) (fun (j, V4, l4, xs4, H4, s4, op4, gs4, ms4, ac4) (a : Act) (wv : World) => St 321 [(5, .pointer (some ⟨q4, 0, none⟩)), (8, .pointer (some ⟨wb10, 0, none⟩)), (9, .pointer (some ⟨b13, 0, none⟩)), (21, .int .i64 ((j : Int)))] a ∧ Mem w nof [pt q4 #[.pointer (some ⟨m5, 0, none⟩), .int .i64 3, .slice (some ⟨nb7, 0, none⟩) n.toNat n.toNat, .slice (some ⟨ob8, 0, none⟩) 4 4] 128, pt ob8 ((vals (gs4.map owV))) 43, bundle (gs4.map owC), memO m5 c6 l4 s4 op4, pt wb10 #[.slice (some ⟨gH, 0, none⟩) H4.length c12] 93, own 3 1 (.slice (some ⟨gH, 0, none⟩) H4.length c12) H4.length (H4.map (Value.int .i64)), pt b13 ((vals (ms4.map maV))) 98, bundle (ms4.map (maC q4))] wv ∧ (j ≤ 4) ∧ (GI 3 n V4 l4 H4 xs4 (gs4.map (·.Y)) ac4) ∧ (gs4.length = 4) ∧ (ms4.length = 4) ∧ (∀ i x, j ≤ i → ms4[i]? = some (some x) → MOK1 i x) ∧ (∀ i, j ≤ i → ac4[i]? = (tsOf ms4)[i]?) ∧ (0 ≤ s4 ∧ s4 ≤ 500 + 10 * (j : Int)) ∧ (V4 ≤ 400 + (j : Int))) (fun (j, V4, l4, xs4, H4, s4, op4, gs4, ms4, ac4) => 4 - j) ((0, V, l, xs, H, s, op, gs, ms, tsOf ms)) ⟨hA.sub ((.cons rfl (.cons rfl (.cons rfl (.cons rfl .nil))))), hM, (by omega), hg, hgl, hml, (fun i x _ => hmok i x), (fun i _ => rfl), (by omega), (by omega)⟩ ?_
      clear hA hM a
      rintro ⟨j, V4, l4, xs4, H4, s4, op4, gs4, ms4, ac4⟩ a w42 ⟨hA, hM, hj4, hg4, hgl4, hml4, hmok4, hac4, hs4, hV4⟩ hNext2
      refine Ends.seq ?_
      refine Ends.seq ?_
      refine Ends.region ?_
      refine S.val hA (R.move rfl) rfl ?_; clear hA a; intro a hA
      refine S.val hA (R.lss rfl rfl) rfl ?_; clear hA a; intro a hA
      refine S.done ?_
      replace hA : St 321 [(5, _), (8, _), (9, _), (21, _), (249, _)] a := hA.sub ((.cons rfl (.cons rfl (.cons rfl (.cons rfl (.cons rfl .nil))))))
      refine Ends.ite hA rfl (fun hc63 => ?_) (fun hc63 => ?_)
      ·
        refine Ends.skip ?_
        refine Ends.seq ?_
        refine Ends.block ?_
        refine Ends.seq ?_
        refine Ends.seq ?_
        by_cases hs64 : ms4[j]? = some none
        ·
          obtain ⟨yg, hyg⟩ := ows_some (gs := gs4) (k := j) (by omega)
          have hyl := hg4.own yg.Y (List.mem_map.2 ⟨yg, List.mem_of_getElem? hyg, rfl⟩)
          refine Ends.region ?_
          refine S.val hA (R.move rfl) rfl ?_; clear hA a; intro a hA
          refine S.val hA (R.indexAddrA (q := j) ar98 rfl rfl (by first | omega | (simp; done)) (by first | omega | (simp; done))) rfl ?_; clear hA a; intro a hA
          refine S.val hA (R.load sz97 rfl (hM.cell (k := 6) rfl (vals_at _ _ _ (maV_at hs64)))) rfl ?_; clear hA a; intro a hA
          refine S.val hA (R.assign rfl) rfl ?_; clear hA a; intro a hA
          refine S.done ?_
          replace hA : St 321 [(5, _), (8, _), (9, _), (21, _), (22, _)] a := hA.sub ((.cons rfl (.cons rfl (.cons rfl (.cons rfl (.cons rfl .nil))))))
          refine Ends.seq ?_
          refine Ends.region ?_
          refine S.val hA (R.move rfl) rfl ?_; clear hA a; intro a hA
          refine S.val hA (R.neqNil Try.underlying97 rfl rfl) rfl ?_; clear hA a; intro a hA
          refine S.done ?_
          replace hA : St 321 [(5, _), (8, _), (9, _), (21, _), (22, _), (256, _)] a := hA.sub ((.cons rfl (.cons rfl (.cons rfl (.cons rfl (.cons rfl (.cons rfl .nil)))))))
          refine Ends.condF hA rfl ?_
          refine Ends.skip ?_
          refine Ends.seq ?_
          refine Ends.region ?_
          refine S.val hA (R.move rfl) rfl ?_; clear hA a; intro a hA
          refine S.val hA (R.move rfl) rfl ?_; clear hA a; intro a hA
          refine S.call hA (R.callF Try.func52 rfl rfl rfl) rfl (pown_b q4 m5 nb7 n.toNat ob8 4 3 j gs4 yg (by omega) hyg (by omega) _ (hM.hereN 3)) ?_; clear hA a
          rintro e w43 ⟨a65, c66, rfl, hn⟩
          replace hM : Mem _ _ [own 3 1 (.slice a65 yg.Y.length c66) yg.Y.length (yg.Y.map (Value.int .i64)), pt q4 #[.pointer (some ⟨m5, 0, none⟩), .int .i64 3, .slice (some ⟨nb7, 0, none⟩) n.toNat n.toNat, .slice (some ⟨ob8, 0, none⟩) 4 4] 128, pt ob8 ((vals (gs4.map owV))) 43, bundle (gs4.map owC), memO m5 c6 l4 s4 op4, pt wb10 #[.slice (some ⟨gH, 0, none⟩) H4.length c12] 93, own 3 1 (.slice (some ⟨gH, 0, none⟩) H4.length c12) H4.length (H4.map (Value.int .i64)), pt b13 ((vals (ms4.map maV))) 98, bundle (ms4.map (maC q4))] _ := hM.callL 3 hn; clear hn
          refine ⟨.slice a65 yg.Y.length c66, rfl, fun a hA => ?_⟩
          refine S.val hA (R.lenS Try.underlying43 rfl rfl) rfl ?_; clear hA a; intro a hA
          refine S.val hA (R.ff (R.gtr rfl rfl) (by first | omega | (simp; done))) rfl ?_; clear hA a; intro a hA
          refine S.done ?_
          replace hA : St 321 [(5, _), (8, _), (9, _), (21, _), (307, _)] a := hA.sub ((.cons rfl (.cons rfl (.cons rfl (.cons rfl (.cons rfl .nil))))))
          refine Ends.condF hA rfl ?_
          refine Ends.skip ?_
          refine Ends.inBlock ?_
          refine Ends.region ?_
          refine S.val hA (R.move rfl) rfl ?_; clear hA a; intro a hA
          refine S.val hA (R.addI rfl rfl (r := ((j : Int)) + 1) rfl (by first | omega | (simp; done))) rfl ?_; clear hA a; intro a hA
          refine S.val hA (R.assign rfl) rfl ?_; clear hA a; intro a hA
          refine S.done ?_
          replace hA : St 321 [(5, _), (8, _), (9, _), (21, _)] a := hA.sub ((.cons rfl (.cons rfl (.cons rfl (.cons rfl .nil)))))
          replace hM := hM.front (k := 8) rfl
          replace hM := hM.front (k := 8) rfl
          replace hM := hM.front (k := 8) rfl
          replace hM := hM.front (k := 8) rfl
          replace hM := hM.front (k := 8) rfl
          replace hM := hM.front (k := 8) rfl
          replace hM := hM.front (k := 8) rfl
          replace hM := hM.front (k := 8) rfl
          replace hM : Mem _ _ [pt q4 #[.pointer (some ⟨m5, 0, none⟩), .int .i64 3, .slice (some ⟨nb7, 0, none⟩) n.toNat n.toNat, .slice (some ⟨ob8, 0, none⟩) 4 4] 128, pt ob8 ((vals (gs4.map owV))) 43, bundle (gs4.map owC), memO m5 c6 l4 s4 op4, pt wb10 #[.slice (some ⟨gH, 0, none⟩) H4.length c12] 93, own 3 1 (.slice (some ⟨gH, 0, none⟩) H4.length c12) H4.length (H4.map (Value.int .i64)), pt b13 ((vals (ms4.map maV))) 98, bundle (ms4.map (maC q4)), own 3 1 (.slice a65 yg.Y.length c66) yg.Y.length (yg.Y.map (Value.int .i64))] _ := hM
          replace hM : Mem _ _ [pt q4 #[.pointer (some ⟨m5, 0, none⟩), .int .i64 3, .slice (some ⟨nb7, 0, none⟩) n.toNat n.toNat, .slice (some ⟨ob8, 0, none⟩) 4 4] 128, pt ob8 ((vals (gs4.map owV))) 43, bundle (gs4.map owC), memO m5 c6 l4 s4 op4, pt wb10 #[.slice (some ⟨gH, 0, none⟩) H4.length c12] 93, own 3 1 (.slice (some ⟨gH, 0, none⟩) H4.length c12) H4.length (H4.map (Value.int .i64)), pt b13 ((vals (ms4.map maV))) 98, bundle (ms4.map (maC q4))] _ := hM.firstN 8
          exact hNext2 ((j + 1, V4, l4, xs4, H4, s4, op4, gs4, ms4, ac4)) _ _ ((by show 4 - (j + 1) < 4 - j; omega)) ⟨hA.sub ((.cons rfl (.cons rfl (.cons rfl (.cons rfl .nil))))), hM, (by omega), hg4, hgl4, hml4, (fun i x hi => hmok4 i x (by omega)), (fun i hi => hac4 i (by omega)), (by omega), (by omega)⟩
        ·
          replace hM := hM.front (k := 7) rfl
          replace hM : Mem _ _ [bundle (ms4.map (maC q4)), pt q4 #[.pointer (some ⟨m5, 0, none⟩), .int .i64 3, .slice (some ⟨nb7, 0, none⟩) n.toNat n.toNat, .slice (some ⟨ob8, 0, none⟩) 4 4] 128, pt ob8 ((vals (gs4.map owV))) 43, bundle (gs4.map owC), memO m5 c6 l4 s4 op4, pt wb10 #[.slice (some ⟨gH, 0, none⟩) H4.length c12] 93, own 3 1 (.slice (some ⟨gH, 0, none⟩) H4.length c12) H4.length (H4.map (Value.int .i64)), pt b13 ((vals (ms4.map maV))) 98] _ := hM
          obtain ⟨yg, hyg⟩ := ows_some (gs := gs4) (k := j) (by omega)
          have hyl := hg4.own yg.Y (List.mem_map.2 ⟨yg, List.mem_of_getElem? hyg, rfl⟩)
          obtain ⟨t, hmj⟩ := ma_some (by omega) hs64
          obtain ⟨hk1, hk2, hk3, hk4⟩ := hmok4 _ _ (by omega) hmj
          have hact : ac4[j]? = some (some t.t) := (hac4 j (by omega)).trans (tsOf_at hmj)
          replace hM : Mem _ _ [pt t.b1 #[.pointer (some ⟨t.b2, 0, none⟩), .bool t.gv, .int .i64 t.sl, .int .i64 t.fr] 102, pt t.b2 #[.pointer (some ⟨q4, 0, none⟩), .int .i64 t.wr, .bool t.t.give, .int .i64 t.t.slot, .int .i64 t.t.ph, .int .i64 t.t.top, .int .i64 t.t.next] 131, bundle ((ms4.eraseIdx j).map (maC q4)), pt q4 #[.pointer (some ⟨m5, 0, none⟩), .int .i64 3, .slice (some ⟨nb7, 0, none⟩) n.toNat n.toNat, .slice (some ⟨ob8, 0, none⟩) 4 4] 128, pt ob8 ((vals (gs4.map owV))) 43, bundle (gs4.map owC), memO m5 c6 l4 s4 op4, pt wb10 #[.slice (some ⟨gH, 0, none⟩) H4.length c12] 93, own 3 1 (.slice (some ⟨gH, 0, none⟩) H4.length c12) H4.length (H4.map (Value.int .i64)), pt b13 ((vals (ms4.map maV))) 98] _ := (hM.openB hmj).unpack
          rw [hk1] at hM
          refine Ends.region ?_
          refine S.val hA (R.move rfl) rfl ?_; clear hA a; intro a hA
          refine S.val hA (R.indexAddrA (q := j) ar98 rfl rfl (by first | omega | (simp; done)) (by first | omega | (simp; done))) rfl ?_; clear hA a; intro a hA
          refine S.val hA (R.load sz97 rfl (hM.cell (k := 9) rfl (vals_at _ _ _ (maV_at hmj)))) rfl ?_; clear hA a; intro a hA
          refine S.val hA (R.assign rfl) rfl ?_; clear hA a; intro a hA
          refine S.done ?_
          replace hA : St 321 [(5, _), (8, _), (9, _), (21, _), (22, _)] a := hA.sub ((.cons rfl (.cons rfl (.cons rfl (.cons rfl (.cons rfl .nil))))))
          refine Ends.seq ?_
          refine Ends.region ?_
          refine S.val hA (R.move rfl) rfl ?_; clear hA a; intro a hA
          refine S.val hA (R.neqNil Try.underlying97 rfl rfl) rfl ?_; clear hA a; intro a hA
          refine S.done ?_
          replace hA : St 321 [(5, _), (8, _), (9, _), (21, _), (22, _), (256, _)] a := hA.sub ((.cons rfl (.cons rfl (.cons rfl (.cons rfl (.cons rfl (.cons rfl .nil)))))))
          refine Ends.condT hA rfl ?_
          refine Ends.seq ?_
          refine Ends.seq ?_
          refine Ends.region ?_
          refine S.val hA (R.move rfl) rfl ?_; clear hA a; intro a hA
          refine S.val hA (R.nilCheck rfl) rfl ?_; clear hA a; intro a hA
          refine S.val hA (R.fieldAddr (q := 0) fi102_0 rfl rfl rfl) rfl ?_; clear hA a; intro a hA
          refine S.val hA (R.load sz83 rfl (hM.cell (k := 0) rfl rfl)) rfl ?_; clear hA a; intro a hA
          replace hM := hM.front (k := 6) rfl
          replace hM := hM.front (k := 6) rfl
          replace hM := hM.front (k := 6) rfl
          replace hM := hM.front (k := 6) rfl
          replace hM := hM.front (k := 5) rfl
          replace hM : Mem _ _ [pt t.b2 #[.pointer (some ⟨q4, 0, none⟩), .int .i64 j, .bool t.t.give, .int .i64 t.t.slot, .int .i64 t.t.ph, .int .i64 t.t.top, .int .i64 t.t.next] 131, pt q4 #[.pointer (some ⟨m5, 0, none⟩), .int .i64 3, .slice (some ⟨nb7, 0, none⟩) n.toNat n.toNat, .slice (some ⟨ob8, 0, none⟩) 4 4] 128, pt ob8 ((vals (gs4.map owV))) 43, bundle (gs4.map owC), memO m5 c6 l4 s4 op4, pt t.b1 #[.pointer (some ⟨t.b2, 0, none⟩), .bool t.gv, .int .i64 t.sl, .int .i64 t.fr] 102, bundle ((ms4.eraseIdx j).map (maC q4)), pt wb10 #[.slice (some ⟨gH, 0, none⟩) H4.length c12] 93, own 3 1 (.slice (some ⟨gH, 0, none⟩) H4.length c12) H4.length (H4.map (Value.int .i64)), pt b13 ((vals (ms4.map maV))) 98] _ := hM
          refine S.call hA (R.callF Try.func59 rfl rfl rfl) rfl (prun_b t.b2 q4 m5 nb7 n.toNat ob8 4 c6 3 n V4 op4 hm5c6 gs4 hgl4 t.t l4 s4 (by omega) H4 xs4 ac4 j yg hg4 (by omega) hact hyg (by omega) _ (hM.hereN 5)) ?_; clear hA a
          rintro e w44 ⟨a9, c9, o9, r9, ⟨t9, Y9, l9, s9⟩, rfl, hn, hs9, hsk, hpe⟩
          replace hM : Mem _ _ [pt t.b2 #[.pointer (some ⟨q4, 0, none⟩), .int .i64 j, .bool t9.give, .int .i64 t9.slot, .int .i64 t9.ph, .int .i64 t9.top, .int .i64 t9.next] 131, pt q4 #[.pointer (some ⟨m5, 0, none⟩), .int .i64 3, .slice (some ⟨nb7, 0, none⟩) n.toNat n.toNat, .slice (some ⟨ob8, 0, none⟩) 4 4] 128, pt ob8 ((vals ((gs4.set j ⟨Y9, a9, c9⟩).map owV))) 43, bundle ((gs4.set j ⟨Y9, a9, c9⟩).map owC), memO m5 c6 l9 s9 o9, pt t.b1 #[.pointer (some ⟨t.b2, 0, none⟩), .bool t.gv, .int .i64 t.sl, .int .i64 t.fr] 102, bundle ((ms4.eraseIdx j).map (maC q4)), pt wb10 #[.slice (some ⟨gH, 0, none⟩) H4.length c12] 93, own 3 1 (.slice (some ⟨gH, 0, none⟩) H4.length c12) H4.length (H4.map (Value.int .i64)), pt b13 ((vals (ms4.map maV))) 98] _ := hM.callL 5 hn; clear hn
          replace hs9 : s4 ≤ s9 ∧ s9 ≤ s4 + 5 := hs9
          have hph9 : t9.ph = 3 := pend_ph hpe
          refine ⟨.int .i64 r9, rfl, fun a hA => ?_⟩
          refine S.val hA (R.lss rfl rfl) rfl ?_; clear hA a; intro a hA
          refine S.val hA (R.move rfl) rfl ?_; clear hA a; intro a hA
          refine hA.split (d := 263) rfl ?_ ?_
          · clear hA; intro hg67 hA
            refine S.valg (dj := 263) hA (by kernel_rfl) rfl (R.move rfl) rfl ?_; clear hA a; intro a hA
            refine S.valg (dj := 263) hA (by kernel_rfl) rfl (R.nilCheck rfl) rfl ?_; clear hA a; intro a hA
            refine S.valg (dj := 263) hA (by kernel_rfl) rfl (R.fieldAddr (q := 0) fi102_0 rfl rfl rfl) rfl ?_; clear hA a; intro a hA
            refine S.valg (dj := 263) hA (by kernel_rfl) rfl (R.load sz83 rfl (hM.cell (k := 5) rfl rfl)) rfl ?_; clear hA a; intro a hA
            skip
            refine S.callg (dj := 263) hA (by kernel_rfl) rfl (R.callF Try.func59 rfl rfl rfl) rfl (prun_b2 t.b2 q4 m5 nb7 n.toNat ob8 4 c6 3 n o9 hm5c6 (gs4.set j ⟨Y9, a9, c9⟩) (by rw [List.length_set]; exact hgl4) t9 l9 s9 (by omega) j ⟨Y9, a9, c9⟩ hsk hph9 (List.getElem?_set_self (by omega)) (by omega) _ (hM.hereN 5)) ?_; clear hA a
            rintro e w45 ⟨a8, c8, o8, rfl, hn⟩
            replace hM : Mem _ _ [pt t.b2 #[.pointer (some ⟨q4, 0, none⟩), .int .i64 j, .bool t9.give, .int .i64 t9.slot, .int .i64 t9.ph, .int .i64 t9.top, .int .i64 t9.next] 131, pt q4 #[.pointer (some ⟨m5, 0, none⟩), .int .i64 3, .slice (some ⟨nb7, 0, none⟩) n.toNat n.toNat, .slice (some ⟨ob8, 0, none⟩) 4 4] 128, pt ob8 ((vals (((gs4.set j ⟨Y9, a9, c9⟩).set j ⟨Y9, a8, c8⟩).map owV))) 43, bundle (((gs4.set j ⟨Y9, a9, c9⟩).set j ⟨Y9, a8, c8⟩).map owC), memO m5 c6 l9 s9 o8, pt t.b1 #[.pointer (some ⟨t.b2, 0, none⟩), .bool t.gv, .int .i64 t.sl, .int .i64 t.fr] 102, bundle ((ms4.eraseIdx j).map (maC q4)), pt wb10 #[.slice (some ⟨gH, 0, none⟩) H4.length c12] 93, own 3 1 (.slice (some ⟨gH, 0, none⟩) H4.length c12) H4.length (H4.map (Value.int .i64)), pt b13 ((vals (ms4.map maV))) 98] _ := hM.callL 5 hn; clear hn
            refine ⟨.int .i64 0, rfl, fun a hA => ?_⟩
            refine S.valg (dj := 263) hA (by kernel_rfl) rfl (R.ff (R.lss rfl rfl) (by first | omega | (simp; done))) rfl ?_; clear hA a; intro a hA
            refine S.val hA (R.pickT rfl rfl) rfl ?_; clear hA a; intro a hA
            refine S.done ?_
            replace hA : St 321 [(5, _), (8, _), (9, _), (21, _), (22, _), (270, _)] a := hA.sub ((.cons rfl (.cons rfl (.cons rfl (.cons rfl (.cons rfl (.cons rfl .nil)))))))
            refine Ends.condF hA rfl ?_
            refine Ends.skip ?_
            refine Ends.seq ?_
            simp only [List.set_set] at hM
            replace hM : Mem _ _ [pt t.b2 #[.pointer (some ⟨q4, 0, none⟩), .int .i64 j, .bool t9.give, .int .i64 t9.slot, .int .i64 t9.ph, .int .i64 t9.top, .int .i64 t9.next] 131, pt q4 #[.pointer (some ⟨m5, 0, none⟩), .int .i64 3, .slice (some ⟨nb7, 0, none⟩) n.toNat n.toNat, .slice (some ⟨ob8, 0, none⟩) 4 4] 128, pt ob8 ((vals ((gs4.set j ⟨Y9, a8, c8⟩).map owV))) 43, bundle ((gs4.set j ⟨Y9, a8, c8⟩).map owC), memO m5 c6 l9 s9 o8, pt t.b1 #[.pointer (some ⟨t.b2, 0, none⟩), .bool t.gv, .int .i64 t.sl, .int .i64 t.fr] 102, bundle ((ms4.eraseIdx j).map (maC q4)), pt wb10 #[.slice (some ⟨gH, 0, none⟩) H4.length c12] 93, own 3 1 (.slice (some ⟨gH, 0, none⟩) H4.length c12) H4.length (H4.map (Value.int .i64)), pt b13 ((vals (ms4.map maV))) 98] _ := hM
            refine Ends.region ?_
            refine S.val hA (R.move rfl) rfl ?_; clear hA a; intro a hA
            refine S.val hA (R.nilCheck rfl) rfl ?_; clear hA a; intro a hA
            refine S.val hA (R.fieldAddr (q := 0) fi102_0 rfl rfl rfl) rfl ?_; clear hA a; intro a hA
            refine S.val hA (R.load sz83 rfl (hM.cell (k := 5) rfl rfl)) rfl ?_; clear hA a; intro a hA
            refine S.call hA (R.callF Try.func56 rfl rfl rfl) rfl (pact_slot t.b2 q4 (j : Int) t9 hph9 _ (hM.block (k := 0) rfl)) ?_; clear hA a
            rintro e w46 ⟨rfl, rfl⟩
            refine ⟨.int .i64 t9.slot, rfl, fun a hA => ?_⟩
            refine S.val hA (R.assign rfl) rfl ?_; clear hA a; intro a hA
            refine S.done ?_
            replace hA : St 321 [(5, _), (8, _), (9, _), (21, _), (22, _), (23, _)] a := hA.sub ((.cons rfl (.cons rfl (.cons rfl (.cons rfl (.cons rfl (.cons rfl .nil)))))))
            refine Ends.seq ?_
            by_cases hs68 : t.gv = true
            ·
              have hgv := hs68
              have hgt : t.t.give = true := hk2.symm.trans hgv
              rw [hgv] at hM
              obtain ⟨xs8, hsl8, hgi8⟩ := pend_gave hpe hgt
              replace hsl8 : t9.slot = t.t.slot := hsl8
              rw [← hsl8] at hgi8
              have hrg := (hg4.acts _ _ hact).1.1 hgt
              have hHl := hg4.held.1
              refine Ends.region ?_
              refine S.val hA (R.move rfl) rfl ?_; clear hA a; intro a hA
              refine S.val hA (R.nilCheck rfl) rfl ?_; clear hA a; intro a hA
              refine S.val hA (R.fieldAddr (q := 1) fi102_1 rfl rfl rfl) rfl ?_; clear hA a; intro a hA
              refine S.val hA (R.load sz4 rfl (hM.cell (k := 5) rfl rfl)) rfl ?_; clear hA a; intro a hA
              refine S.done ?_
              replace hA : St 321 [(5, _), (8, _), (9, _), (21, _), (23, _), (279, _)] a := hA.sub ((.cons rfl (.cons rfl (.cons rfl (.cons rfl (.cons rfl (.cons rfl .nil)))))))
              refine Ends.condT hA rfl ?_
              refine Ends.region ?_
              refine S.val hA (R.move rfl) rfl ?_; clear hA a; intro a hA
              refine S.val hA (R.nilCheck rfl) rfl ?_; clear hA a; intro a hA
              refine S.val hA (R.fieldAddr (q := 0) fi93_0 rfl rfl rfl) rfl ?_; clear hA a; intro a hA
              refine S.val hA (R.load sz43 rfl (hM.cell (k := 7) rfl rfl)) rfl ?_; clear hA a; intro a hA
              refine S.val hA (R.move rfl) rfl ?_; clear hA a; intro a hA
              refine S.val hA (R.indexAddr (q := t9.slot.toNat) sl43 rfl rfl (by first | omega | (simp; done)) (by first | omega | (simp; done))) rfl ?_; clear hA a; intro a hA
              refine S.storeO (k := 8) hA hM sz3 rfl rfl rfl rfl (mapi_get H4 t9.slot.toNat (by first | omega | (simp; done))) ?_; clear hM; intro w47 hM; rw [mapi_set] at hM
              replace hM : Mem _ _ [pt t.b2 #[.pointer (some ⟨q4, 0, none⟩), .int .i64 j, .bool t9.give, .int .i64 t9.slot, .int .i64 t9.ph, .int .i64 t9.top, .int .i64 t9.next] 131, pt q4 #[.pointer (some ⟨m5, 0, none⟩), .int .i64 3, .slice (some ⟨nb7, 0, none⟩) n.toNat n.toNat, .slice (some ⟨ob8, 0, none⟩) 4 4] 128, pt ob8 ((vals ((gs4.set j ⟨Y9, a8, c8⟩).map owV))) 43, bundle ((gs4.set j ⟨Y9, a8, c8⟩).map owC), memO m5 c6 l9 s9 o8, pt t.b1 #[.pointer (some ⟨t.b2, 0, none⟩), .bool true, .int .i64 t.sl, .int .i64 t.fr] 102, bundle ((ms4.eraseIdx j).map (maC q4)), pt wb10 #[.slice (some ⟨gH, 0, none⟩) H4.length c12] 93, own 3 1 (.slice (some ⟨gH, 0, none⟩) H4.length c12) H4.length (((H4.set t9.slot.toNat (-1))).map (Value.int .i64)), pt b13 ((vals (ms4.map maV))) 98] _ := hM
              refine S.done ?_
              replace hA : St 321 [(5, _), (8, _), (9, _), (21, _)] a := hA.sub ((.cons rfl (.cons rfl (.cons rfl (.cons rfl .nil)))))
              refine Ends.seq ?_
              have hyl9 : Y9.length ≤ 2 := hgi8.own Y9 (List.mem_iff_getElem?.2 ⟨j, List.getElem?_set_self (by rw [List.length_map]; omega)⟩)
              refine Ends.region ?_
              refine S.val hA (R.move rfl) rfl ?_; clear hA a; intro a hA
              refine S.val hA (R.move rfl) rfl ?_; clear hA a; intro a hA
              replace hM := hM.front (k := 3) rfl
              replace hM := hM.front (k := 3) rfl
              replace hM := hM.front (k := 3) rfl
              replace hM : Mem _ _ [pt q4 #[.pointer (some ⟨m5, 0, none⟩), .int .i64 3, .slice (some ⟨nb7, 0, none⟩) n.toNat n.toNat, .slice (some ⟨ob8, 0, none⟩) 4 4] 128, pt ob8 ((vals ((gs4.set j ⟨Y9, a8, c8⟩).map owV))) 43, bundle ((gs4.set j ⟨Y9, a8, c8⟩).map owC), pt t.b2 #[.pointer (some ⟨q4, 0, none⟩), .int .i64 j, .bool t9.give, .int .i64 t9.slot, .int .i64 t9.ph, .int .i64 t9.top, .int .i64 t9.next] 131, memO m5 c6 l9 s9 o8, pt t.b1 #[.pointer (some ⟨t.b2, 0, none⟩), .bool true, .int .i64 t.sl, .int .i64 t.fr] 102, bundle ((ms4.eraseIdx j).map (maC q4)), pt wb10 #[.slice (some ⟨gH, 0, none⟩) H4.length c12] 93, own 3 1 (.slice (some ⟨gH, 0, none⟩) H4.length c12) H4.length (((H4.set t9.slot.toNat (-1))).map (Value.int .i64)), pt b13 ((vals (ms4.map maV))) 98] _ := hM
              refine S.call hA (R.callF Try.func52 rfl rfl rfl) rfl (pown_b q4 m5 nb7 n.toNat ob8 4 3 j (gs4.set j ⟨Y9, a8, c8⟩) (⟨Y9, a8, c8⟩ : OwS) (by omega) (List.getElem?_set_self (by omega)) (by show Y9.length ≤ 1000; omega) _ (hM.hereN 3)) ?_; clear hA a
              rintro e w48 ⟨a69, c70, rfl, hn⟩
              replace hM : Mem _ _ [own 3 1 (.slice a69 Y9.length c70) Y9.length (Y9.map (Value.int .i64)), pt q4 #[.pointer (some ⟨m5, 0, none⟩), .int .i64 3, .slice (some ⟨nb7, 0, none⟩) n.toNat n.toNat, .slice (some ⟨ob8, 0, none⟩) 4 4] 128, pt ob8 ((vals ((gs4.set j ⟨Y9, a8, c8⟩).map owV))) 43, bundle ((gs4.set j ⟨Y9, a8, c8⟩).map owC), pt t.b2 #[.pointer (some ⟨q4, 0, none⟩), .int .i64 j, .bool t9.give, .int .i64 t9.slot, .int .i64 t9.ph, .int .i64 t9.top, .int .i64 t9.next] 131, memO m5 c6 l9 s9 o8, pt t.b1 #[.pointer (some ⟨t.b2, 0, none⟩), .bool true, .int .i64 t.sl, .int .i64 t.fr] 102, bundle ((ms4.eraseIdx j).map (maC q4)), pt wb10 #[.slice (some ⟨gH, 0, none⟩) H4.length c12] 93, own 3 1 (.slice (some ⟨gH, 0, none⟩) H4.length c12) H4.length (((H4.set t9.slot.toNat (-1))).map (Value.int .i64)), pt b13 ((vals (ms4.map maV))) 98] _ := hM.callL 3 hn; clear hn
              refine ⟨.slice a69 Y9.length c70, rfl, fun a hA => ?_⟩
              refine S.val hA (R.lenS Try.underlying43 rfl rfl) rfl ?_; clear hA a; intro a hA
              refine S.val hA (R.ff (R.gtr rfl rfl) (by first | omega | (simp; done))) rfl ?_; clear hA a; intro a hA
              refine S.done ?_
              replace hA : St 321 [(5, _), (8, _), (9, _), (21, _), (307, _)] a := hA.sub ((.cons rfl (.cons rfl (.cons rfl (.cons rfl (.cons rfl .nil))))))
              refine Ends.condF hA rfl ?_
              refine Ends.skip ?_
              refine Ends.inBlock ?_
              refine Ends.region ?_
              refine S.val hA (R.move rfl) rfl ?_; clear hA a; intro a hA
              refine S.val hA (R.addI rfl rfl (r := ((j : Int)) + 1) rfl (by first | omega | (simp; done))) rfl ?_; clear hA a; intro a hA
              refine S.val hA (R.assign rfl) rfl ?_; clear hA a; intro a hA
              refine S.done ?_
              replace hA : St 321 [(5, _), (8, _), (9, _), (21, _)] a := hA.sub ((.cons rfl (.cons rfl (.cons rfl (.cons rfl .nil)))))
              rw [show H4.length = ((H4.set t9.slot.toNat (-1))).length by simp] at hM
              replace hM := hM.front (k := 7) rfl
              replace hM := hM.front (k := 5) rfl
              replace hM := hM.front (k := 7) rfl
              replace hM : Mem _ _ [pt t.b1 #[.pointer (some ⟨t.b2, 0, none⟩), .bool true, .int .i64 t.sl, .int .i64 t.fr] 102, pt t.b2 #[.pointer (some ⟨q4, 0, none⟩), .int .i64 j, .bool t9.give, .int .i64 t9.slot, .int .i64 t9.ph, .int .i64 t9.top, .int .i64 t9.next] 131, bundle ((ms4.eraseIdx j).map (maC q4)), own 3 1 (.slice a69 Y9.length c70) Y9.length (Y9.map (Value.int .i64)), pt q4 #[.pointer (some ⟨m5, 0, none⟩), .int .i64 3, .slice (some ⟨nb7, 0, none⟩) n.toNat n.toNat, .slice (some ⟨ob8, 0, none⟩) 4 4] 128, pt ob8 ((vals ((gs4.set j ⟨Y9, a8, c8⟩).map owV))) 43, bundle ((gs4.set j ⟨Y9, a8, c8⟩).map owC), memO m5 c6 l9 s9 o8, pt wb10 #[.slice (some ⟨gH, 0, none⟩) (((H4.set t9.slot.toNat (-1))).length) c12] 93, own 3 1 (.slice (some ⟨gH, 0, none⟩) (((H4.set t9.slot.toNat (-1))).length) c12) (((H4.set t9.slot.toNat (-1))).length) (((H4.set t9.slot.toNat (-1))).map (Value.int .i64)), pt b13 ((vals (ms4.map maV))) 98] _ := hM
              replace hM := (hM.pack (cs := [pt t.b1 #[.pointer (some ⟨t.b2, 0, none⟩), .bool true, .int .i64 t.sl, .int .i64 t.fr] 102, pt t.b2 #[.pointer (some ⟨q4, 0, none⟩), .int .i64 j, .bool t9.give, .int .i64 t9.slot, .int .i64 t9.ph, .int .i64 t9.top, .int .i64 t9.next] 131])).closeB (f := maC q4) (y := (some ⟨t.b1, t.b2, t9, true, t.sl, t.fr, (j : Int)⟩ : MS)) hmj
              rw [← maV_set (t' := ⟨t.b1, t.b2, t9, true, t.sl, t.fr, (j : Int)⟩) hmj rfl] at hM
              replace hM := hM.front (k := 8) rfl
              replace hM := hM.front (k := 8) rfl
              replace hM := hM.front (k := 8) rfl
              replace hM := hM.front (k := 8) rfl
              replace hM := hM.front (k := 8) rfl
              replace hM := hM.front (k := 8) rfl
              replace hM := hM.front (k := 8) rfl
              replace hM : Mem _ _ [pt q4 #[.pointer (some ⟨m5, 0, none⟩), .int .i64 3, .slice (some ⟨nb7, 0, none⟩) n.toNat n.toNat, .slice (some ⟨ob8, 0, none⟩) 4 4] 128, pt ob8 ((vals ((gs4.set j ⟨Y9, a8, c8⟩).map owV))) 43, bundle ((gs4.set j ⟨Y9, a8, c8⟩).map owC), memO m5 c6 l9 s9 o8, pt wb10 #[.slice (some ⟨gH, 0, none⟩) (((H4.set t9.slot.toNat (-1))).length) c12] 93, own 3 1 (.slice (some ⟨gH, 0, none⟩) (((H4.set t9.slot.toNat (-1))).length) c12) (((H4.set t9.slot.toNat (-1))).length) (((H4.set t9.slot.toNat (-1))).map (Value.int .i64)), pt b13 ((vals ((ms4.set j (some ⟨t.b1, t.b2, t9, true, t.sl, t.fr, (j : Int)⟩)).map maV))) 98, bundle ((ms4.set j (some ⟨t.b1, t.b2, t9, true, t.sl, t.fr, (j : Int)⟩)).map (maC q4)), own 3 1 (.slice a69 Y9.length c70) Y9.length (Y9.map (Value.int .i64))] _ := hM
              replace hM : Mem _ _ [pt q4 #[.pointer (some ⟨m5, 0, none⟩), .int .i64 3, .slice (some ⟨nb7, 0, none⟩) n.toNat n.toNat, .slice (some ⟨ob8, 0, none⟩) 4 4] 128, pt ob8 ((vals ((gs4.set j ⟨Y9, a8, c8⟩).map owV))) 43, bundle ((gs4.set j ⟨Y9, a8, c8⟩).map owC), memO m5 c6 l9 s9 o8, pt wb10 #[.slice (some ⟨gH, 0, none⟩) (((H4.set t9.slot.toNat (-1))).length) c12] 93, own 3 1 (.slice (some ⟨gH, 0, none⟩) (((H4.set t9.slot.toNat (-1))).length) c12) (((H4.set t9.slot.toNat (-1))).length) (((H4.set t9.slot.toNat (-1))).map (Value.int .i64)), pt b13 ((vals ((ms4.set j (some ⟨t.b1, t.b2, t9, true, t.sl, t.fr, (j : Int)⟩)).map maV))) 98, bundle ((ms4.set j (some ⟨t.b1, t.b2, t9, true, t.sl, t.fr, (j : Int)⟩)).map (maC q4))] _ := hM.firstN 8
              exact hNext2 ((j + 1, V4 + 1, l9, xs8, (H4.set t9.slot.toNat (-1)), s9, o8, (gs4.set j ⟨Y9, a8, c8⟩), (ms4.set j (some ⟨t.b1, t.b2, t9, true, t.sl, t.fr, (j : Int)⟩)), ac4.set j none)) _ _ ((by show 4 - (j + 1) < 4 - j; omega)) ⟨hA.sub ((.cons rfl (.cons rfl (.cons rfl (.cons rfl .nil))))), hM, (by omega), (by rw [show ((gs4.set j ⟨Y9, a8, c8⟩).map (·.Y)) = (gs4.map (·.Y)).set j Y9 by rw [List.map_set]]; exact hgi8), (by rw [List.length_set]; exact hgl4), (by rw [List.length_set]; exact hml4), (fun i x hi hx => by rcases set_cases hx with ⟨e, _⟩ | ⟨_, hx2⟩; exact absurd e (by omega); exact hmok4 i x (by omega) hx2), (fun i hi => by have h1 := hac4 i (by omega); rw [List.getElem?_set_ne (by omega), h1, tsOf_set, List.getElem?_set_ne (by omega)]), (by omega), (by omega)⟩
            ·
              have hgv : t.gv = false := by simpa using hs68
              have hgt : t.t.give = false := hk2.symm.trans hgv
              rw [hgv] at hM
              have hHl := hg4.held.1
              refine Ends.region ?_
              refine S.val hA (R.move rfl) rfl ?_; clear hA a; intro a hA
              refine S.val hA (R.nilCheck rfl) rfl ?_; clear hA a; intro a hA
              refine S.val hA (R.fieldAddr (q := 1) fi102_1 rfl rfl rfl) rfl ?_; clear hA a; intro a hA
              refine S.val hA (R.load sz4 rfl (hM.cell (k := 5) rfl rfl)) rfl ?_; clear hA a; intro a hA
              refine S.done ?_
              replace hA : St 321 [(5, _), (8, _), (9, _), (21, _), (23, _), (279, _)] a := hA.sub ((.cons rfl (.cons rfl (.cons rfl (.cons rfl (.cons rfl (.cons rfl .nil)))))))
              refine Ends.condF hA rfl ?_
              refine Ends.seq ?_
              by_cases hs71 : 0 ≤ t9.slot
              ·
                obtain ⟨xs8, hsl9, hfr9, hgi8⟩ := pend_took hpe hgt hs71 (hk4 hgv)
                replace hsl9 : t9.slot < n := hsl9
                replace hfr9 : H4.getD t9.slot.toNat 0 = -1 := hfr9
                refine Ends.region ?_
                refine S.val hA (R.move rfl) rfl ?_; clear hA a; intro a hA
                refine S.val hA (R.tt (R.geq rfl rfl) (by first | omega | (simp; done))) rfl ?_; clear hA a; intro a hA
                refine S.done ?_
                replace hA : St 321 [(5, _), (8, _), (9, _), (21, _), (23, _), (287, _)] a := hA.sub ((.cons rfl (.cons rfl (.cons rfl (.cons rfl (.cons rfl (.cons rfl .nil)))))))
                refine Ends.condT hA rfl ?_
                refine Ends.seq ?_
                refine Ends.seq ?_
                refine Ends.region ?_
                refine S.val hA (R.move rfl) rfl ?_; clear hA a; intro a hA
                refine S.val hA (R.nilCheck rfl) rfl ?_; clear hA a; intro a hA
                refine S.val hA (R.fieldAddr (q := 0) fi93_0 rfl rfl rfl) rfl ?_; clear hA a; intro a hA
                refine S.val hA (R.load sz43 rfl (hM.cell (k := 7) rfl rfl)) rfl ?_; clear hA a; intro a hA
                refine S.val hA (R.move rfl) rfl ?_; clear hA a; intro a hA
                refine S.val hA (R.indexAddr (q := t9.slot.toNat) sl43 rfl rfl (by first | omega | (simp; done)) (by first | omega | (simp; done))) rfl ?_; clear hA a; intro a hA
                refine S.val hA (R.load sz3 rfl (hM.ownCell (k := 8) rfl (mapi_get _ _ (by first | omega | (simp; done))))) rfl ?_; clear hA a; intro a hA
                refine S.val hA (R.ff (R.neq rfl rfl) (by first | omega | (simp; done))) rfl ?_; clear hA a; intro a hA
                refine S.done ?_
                replace hA : St 321 [(5, _), (8, _), (9, _), (21, _), (23, _), (295, _)] a := hA.sub ((.cons rfl (.cons rfl (.cons rfl (.cons rfl (.cons rfl (.cons rfl .nil)))))))
                refine Ends.condF hA rfl ?_
                refine Ends.skip ?_
                refine Ends.region ?_
                refine S.val hA (R.move rfl) rfl ?_; clear hA a; intro a hA
                refine S.val hA (R.nilCheck rfl) rfl ?_; clear hA a; intro a hA
                refine S.val hA (R.fieldAddr (q := 0) fi93_0 rfl rfl rfl) rfl ?_; clear hA a; intro a hA
                refine S.val hA (R.load sz43 rfl (hM.cell (k := 7) rfl rfl)) rfl ?_; clear hA a; intro a hA
                refine S.val hA (R.move rfl) rfl ?_; clear hA a; intro a hA
                refine S.val hA (R.move rfl) rfl ?_; clear hA a; intro a hA
                refine S.val hA (R.indexAddr (q := t9.slot.toNat) sl43 rfl rfl (by first | omega | (simp; done)) (by first | omega | (simp; done))) rfl ?_; clear hA a; intro a hA
                refine S.storeO (k := 8) hA hM sz3 rfl rfl rfl rfl (mapi_get H4 t9.slot.toNat (by first | omega | (simp; done))) ?_; clear hM; intro w49 hM; rw [mapi_set] at hM
                replace hM : Mem _ _ [pt t.b2 #[.pointer (some ⟨q4, 0, none⟩), .int .i64 j, .bool t9.give, .int .i64 t9.slot, .int .i64 t9.ph, .int .i64 t9.top, .int .i64 t9.next] 131, pt q4 #[.pointer (some ⟨m5, 0, none⟩), .int .i64 3, .slice (some ⟨nb7, 0, none⟩) n.toNat n.toNat, .slice (some ⟨ob8, 0, none⟩) 4 4] 128, pt ob8 ((vals ((gs4.set j ⟨Y9, a8, c8⟩).map owV))) 43, bundle ((gs4.set j ⟨Y9, a8, c8⟩).map owC), memO m5 c6 l9 s9 o8, pt t.b1 #[.pointer (some ⟨t.b2, 0, none⟩), .bool false, .int .i64 t.sl, .int .i64 t.fr] 102, bundle ((ms4.eraseIdx j).map (maC q4)), pt wb10 #[.slice (some ⟨gH, 0, none⟩) H4.length c12] 93, own 3 1 (.slice (some ⟨gH, 0, none⟩) H4.length c12) H4.length (((H4.set t9.slot.toNat ((j : Int)))).map (Value.int .i64)), pt b13 ((vals (ms4.map maV))) 98] _ := hM
                refine S.done ?_
                replace hA : St 321 [(5, _), (8, _), (9, _), (21, _)] a := hA.sub ((.cons rfl (.cons rfl (.cons rfl (.cons rfl .nil)))))
                refine Ends.seq ?_
                have hyl9 : Y9.length ≤ 2 := hgi8.own Y9 (List.mem_iff_getElem?.2 ⟨j, List.getElem?_set_self (by rw [List.length_map]; omega)⟩)
                refine Ends.region ?_
                refine S.val hA (R.move rfl) rfl ?_; clear hA a; intro a hA
                refine S.val hA (R.move rfl) rfl ?_; clear hA a; intro a hA
                replace hM := hM.front (k := 3) rfl
                replace hM := hM.front (k := 3) rfl
                replace hM := hM.front (k := 3) rfl
                replace hM : Mem _ _ [pt q4 #[.pointer (some ⟨m5, 0, none⟩), .int .i64 3, .slice (some ⟨nb7, 0, none⟩) n.toNat n.toNat, .slice (some ⟨ob8, 0, none⟩) 4 4] 128, pt ob8 ((vals ((gs4.set j ⟨Y9, a8, c8⟩).map owV))) 43, bundle ((gs4.set j ⟨Y9, a8, c8⟩).map owC), pt t.b2 #[.pointer (some ⟨q4, 0, none⟩), .int .i64 j, .bool t9.give, .int .i64 t9.slot, .int .i64 t9.ph, .int .i64 t9.top, .int .i64 t9.next] 131, memO m5 c6 l9 s9 o8, pt t.b1 #[.pointer (some ⟨t.b2, 0, none⟩), .bool false, .int .i64 t.sl, .int .i64 t.fr] 102, bundle ((ms4.eraseIdx j).map (maC q4)), pt wb10 #[.slice (some ⟨gH, 0, none⟩) H4.length c12] 93, own 3 1 (.slice (some ⟨gH, 0, none⟩) H4.length c12) H4.length (((H4.set t9.slot.toNat ((j : Int)))).map (Value.int .i64)), pt b13 ((vals (ms4.map maV))) 98] _ := hM
                refine S.call hA (R.callF Try.func52 rfl rfl rfl) rfl (pown_b q4 m5 nb7 n.toNat ob8 4 3 j (gs4.set j ⟨Y9, a8, c8⟩) (⟨Y9, a8, c8⟩ : OwS) (by omega) (List.getElem?_set_self (by omega)) (by show Y9.length ≤ 1000; omega) _ (hM.hereN 3)) ?_; clear hA a
                rintro e w50 ⟨a72, c73, rfl, hn⟩
                replace hM : Mem _ _ [own 3 1 (.slice a72 Y9.length c73) Y9.length (Y9.map (Value.int .i64)), pt q4 #[.pointer (some ⟨m5, 0, none⟩), .int .i64 3, .slice (some ⟨nb7, 0, none⟩) n.toNat n.toNat, .slice (some ⟨ob8, 0, none⟩) 4 4] 128, pt ob8 ((vals ((gs4.set j ⟨Y9, a8, c8⟩).map owV))) 43, bundle ((gs4.set j ⟨Y9, a8, c8⟩).map owC), pt t.b2 #[.pointer (some ⟨q4, 0, none⟩), .int .i64 j, .bool t9.give, .int .i64 t9.slot, .int .i64 t9.ph, .int .i64 t9.top, .int .i64 t9.next] 131, memO m5 c6 l9 s9 o8, pt t.b1 #[.pointer (some ⟨t.b2, 0, none⟩), .bool false, .int .i64 t.sl, .int .i64 t.fr] 102, bundle ((ms4.eraseIdx j).map (maC q4)), pt wb10 #[.slice (some ⟨gH, 0, none⟩) H4.length c12] 93, own 3 1 (.slice (some ⟨gH, 0, none⟩) H4.length c12) H4.length (((H4.set t9.slot.toNat ((j : Int)))).map (Value.int .i64)), pt b13 ((vals (ms4.map maV))) 98] _ := hM.callL 3 hn; clear hn
                refine ⟨.slice a72 Y9.length c73, rfl, fun a hA => ?_⟩
                refine S.val hA (R.lenS Try.underlying43 rfl rfl) rfl ?_; clear hA a; intro a hA
                refine S.val hA (R.ff (R.gtr rfl rfl) (by first | omega | (simp; done))) rfl ?_; clear hA a; intro a hA
                refine S.done ?_
                replace hA : St 321 [(5, _), (8, _), (9, _), (21, _), (307, _)] a := hA.sub ((.cons rfl (.cons rfl (.cons rfl (.cons rfl (.cons rfl .nil))))))
                refine Ends.condF hA rfl ?_
                refine Ends.skip ?_
                refine Ends.inBlock ?_
                refine Ends.region ?_
                refine S.val hA (R.move rfl) rfl ?_; clear hA a; intro a hA
                refine S.val hA (R.addI rfl rfl (r := ((j : Int)) + 1) rfl (by first | omega | (simp; done))) rfl ?_; clear hA a; intro a hA
                refine S.val hA (R.assign rfl) rfl ?_; clear hA a; intro a hA
                refine S.done ?_
                replace hA : St 321 [(5, _), (8, _), (9, _), (21, _)] a := hA.sub ((.cons rfl (.cons rfl (.cons rfl (.cons rfl .nil)))))
                rw [show H4.length = ((H4.set t9.slot.toNat ((j : Int)))).length by simp] at hM
                replace hM := hM.front (k := 7) rfl
                replace hM := hM.front (k := 5) rfl
                replace hM := hM.front (k := 7) rfl
                replace hM : Mem _ _ [pt t.b1 #[.pointer (some ⟨t.b2, 0, none⟩), .bool false, .int .i64 t.sl, .int .i64 t.fr] 102, pt t.b2 #[.pointer (some ⟨q4, 0, none⟩), .int .i64 j, .bool t9.give, .int .i64 t9.slot, .int .i64 t9.ph, .int .i64 t9.top, .int .i64 t9.next] 131, bundle ((ms4.eraseIdx j).map (maC q4)), own 3 1 (.slice a72 Y9.length c73) Y9.length (Y9.map (Value.int .i64)), pt q4 #[.pointer (some ⟨m5, 0, none⟩), .int .i64 3, .slice (some ⟨nb7, 0, none⟩) n.toNat n.toNat, .slice (some ⟨ob8, 0, none⟩) 4 4] 128, pt ob8 ((vals ((gs4.set j ⟨Y9, a8, c8⟩).map owV))) 43, bundle ((gs4.set j ⟨Y9, a8, c8⟩).map owC), memO m5 c6 l9 s9 o8, pt wb10 #[.slice (some ⟨gH, 0, none⟩) (((H4.set t9.slot.toNat ((j : Int)))).length) c12] 93, own 3 1 (.slice (some ⟨gH, 0, none⟩) (((H4.set t9.slot.toNat ((j : Int)))).length) c12) (((H4.set t9.slot.toNat ((j : Int)))).length) (((H4.set t9.slot.toNat ((j : Int)))).map (Value.int .i64)), pt b13 ((vals (ms4.map maV))) 98] _ := hM
                replace hM := (hM.pack (cs := [pt t.b1 #[.pointer (some ⟨t.b2, 0, none⟩), .bool false, .int .i64 t.sl, .int .i64 t.fr] 102, pt t.b2 #[.pointer (some ⟨q4, 0, none⟩), .int .i64 j, .bool t9.give, .int .i64 t9.slot, .int .i64 t9.ph, .int .i64 t9.top, .int .i64 t9.next] 131])).closeB (f := maC q4) (y := (some ⟨t.b1, t.b2, t9, false, t.sl, t.fr, (j : Int)⟩ : MS)) hmj
                rw [← maV_set (t' := ⟨t.b1, t.b2, t9, false, t.sl, t.fr, (j : Int)⟩) hmj rfl] at hM
                replace hM := hM.front (k := 8) rfl
                replace hM := hM.front (k := 8) rfl
                replace hM := hM.front (k := 8) rfl
                replace hM := hM.front (k := 8) rfl
                replace hM := hM.front (k := 8) rfl
                replace hM := hM.front (k := 8) rfl
                replace hM := hM.front (k := 8) rfl
                replace hM : Mem _ _ [pt q4 #[.pointer (some ⟨m5, 0, none⟩), .int .i64 3, .slice (some ⟨nb7, 0, none⟩) n.toNat n.toNat, .slice (some ⟨ob8, 0, none⟩) 4 4] 128, pt ob8 ((vals ((gs4.set j ⟨Y9, a8, c8⟩).map owV))) 43, bundle ((gs4.set j ⟨Y9, a8, c8⟩).map owC), memO m5 c6 l9 s9 o8, pt wb10 #[.slice (some ⟨gH, 0, none⟩) (((H4.set t9.slot.toNat ((j : Int)))).length) c12] 93, own 3 1 (.slice (some ⟨gH, 0, none⟩) (((H4.set t9.slot.toNat ((j : Int)))).length) c12) (((H4.set t9.slot.toNat ((j : Int)))).length) (((H4.set t9.slot.toNat ((j : Int)))).map (Value.int .i64)), pt b13 ((vals ((ms4.set j (some ⟨t.b1, t.b2, t9, false, t.sl, t.fr, (j : Int)⟩)).map maV))) 98, bundle ((ms4.set j (some ⟨t.b1, t.b2, t9, false, t.sl, t.fr, (j : Int)⟩)).map (maC q4)), own 3 1 (.slice a72 Y9.length c73) Y9.length (Y9.map (Value.int .i64))] _ := hM
                replace hM : Mem _ _ [pt q4 #[.pointer (some ⟨m5, 0, none⟩), .int .i64 3, .slice (some ⟨nb7, 0, none⟩) n.toNat n.toNat, .slice (some ⟨ob8, 0, none⟩) 4 4] 128, pt ob8 ((vals ((gs4.set j ⟨Y9, a8, c8⟩).map owV))) 43, bundle ((gs4.set j ⟨Y9, a8, c8⟩).map owC), memO m5 c6 l9 s9 o8, pt wb10 #[.slice (some ⟨gH, 0, none⟩) (((H4.set t9.slot.toNat ((j : Int)))).length) c12] 93, own 3 1 (.slice (some ⟨gH, 0, none⟩) (((H4.set t9.slot.toNat ((j : Int)))).length) c12) (((H4.set t9.slot.toNat ((j : Int)))).length) (((H4.set t9.slot.toNat ((j : Int)))).map (Value.int .i64)), pt b13 ((vals ((ms4.set j (some ⟨t.b1, t.b2, t9, false, t.sl, t.fr, (j : Int)⟩)).map maV))) 98, bundle ((ms4.set j (some ⟨t.b1, t.b2, t9, false, t.sl, t.fr, (j : Int)⟩)).map (maC q4))] _ := hM.firstN 8
                exact hNext2 ((j + 1, V4 + 1, l9, xs8, (H4.set t9.slot.toNat ((j : Int))), s9, o8, (gs4.set j ⟨Y9, a8, c8⟩), (ms4.set j (some ⟨t.b1, t.b2, t9, false, t.sl, t.fr, (j : Int)⟩)), ac4.set j none)) _ _ ((by show 4 - (j + 1) < 4 - j; omega)) ⟨hA.sub ((.cons rfl (.cons rfl (.cons rfl (.cons rfl .nil))))), hM, (by omega), (by rw [show ((gs4.set j ⟨Y9, a8, c8⟩).map (·.Y)) = (gs4.map (·.Y)).set j Y9 by rw [List.map_set]]; exact hgi8), (by rw [List.length_set]; exact hgl4), (by rw [List.length_set]; exact hml4), (fun i x hi hx => by rcases set_cases hx with ⟨e, _⟩ | ⟨_, hx2⟩; exact absurd e (by omega); exact hmok4 i x (by omega) hx2), (fun i hi => by have h1 := hac4 i (by omega); rw [List.getElem?_set_ne (by omega), h1, tsOf_set, List.getElem?_set_ne (by omega)]), (by omega), (by omega)⟩
              ·
                have hgi8 := pend_empty hpe hgt (by show t9.slot < 0; omega)
                refine Ends.region ?_
                refine S.val hA (R.move rfl) rfl ?_; clear hA a; intro a hA
                refine S.val hA (R.ff (R.geq rfl rfl) (by first | omega | (simp; done))) rfl ?_; clear hA a; intro a hA
                refine S.done ?_
                replace hA : St 321 [(5, _), (8, _), (9, _), (21, _), (23, _), (287, _)] a := hA.sub ((.cons rfl (.cons rfl (.cons rfl (.cons rfl (.cons rfl (.cons rfl .nil)))))))
                refine Ends.condF hA rfl ?_
                refine Ends.skip ?_
                refine Ends.seq ?_
                have hyl9 : Y9.length ≤ 2 := hgi8.own Y9 (List.mem_iff_getElem?.2 ⟨j, List.getElem?_set_self (by rw [List.length_map]; omega)⟩)
                refine Ends.region ?_
                refine S.val hA (R.move rfl) rfl ?_; clear hA a; intro a hA
                refine S.val hA (R.move rfl) rfl ?_; clear hA a; intro a hA
                replace hM := hM.front (k := 3) rfl
                replace hM := hM.front (k := 3) rfl
                replace hM := hM.front (k := 3) rfl
                replace hM : Mem _ _ [pt q4 #[.pointer (some ⟨m5, 0, none⟩), .int .i64 3, .slice (some ⟨nb7, 0, none⟩) n.toNat n.toNat, .slice (some ⟨ob8, 0, none⟩) 4 4] 128, pt ob8 ((vals ((gs4.set j ⟨Y9, a8, c8⟩).map owV))) 43, bundle ((gs4.set j ⟨Y9, a8, c8⟩).map owC), pt t.b2 #[.pointer (some ⟨q4, 0, none⟩), .int .i64 j, .bool t9.give, .int .i64 t9.slot, .int .i64 t9.ph, .int .i64 t9.top, .int .i64 t9.next] 131, memO m5 c6 l9 s9 o8, pt t.b1 #[.pointer (some ⟨t.b2, 0, none⟩), .bool false, .int .i64 t.sl, .int .i64 t.fr] 102, bundle ((ms4.eraseIdx j).map (maC q4)), pt wb10 #[.slice (some ⟨gH, 0, none⟩) H4.length c12] 93, own 3 1 (.slice (some ⟨gH, 0, none⟩) H4.length c12) H4.length (H4.map (Value.int .i64)), pt b13 ((vals (ms4.map maV))) 98] _ := hM
                refine S.call hA (R.callF Try.func52 rfl rfl rfl) rfl (pown_b q4 m5 nb7 n.toNat ob8 4 3 j (gs4.set j ⟨Y9, a8, c8⟩) (⟨Y9, a8, c8⟩ : OwS) (by omega) (List.getElem?_set_self (by omega)) (by show Y9.length ≤ 1000; omega) _ (hM.hereN 3)) ?_; clear hA a
                rintro e w51 ⟨a74, c75, rfl, hn⟩
                replace hM : Mem _ _ [own 3 1 (.slice a74 Y9.length c75) Y9.length (Y9.map (Value.int .i64)), pt q4 #[.pointer (some ⟨m5, 0, none⟩), .int .i64 3, .slice (some ⟨nb7, 0, none⟩) n.toNat n.toNat, .slice (some ⟨ob8, 0, none⟩) 4 4] 128, pt ob8 ((vals ((gs4.set j ⟨Y9, a8, c8⟩).map owV))) 43, bundle ((gs4.set j ⟨Y9, a8, c8⟩).map owC), pt t.b2 #[.pointer (some ⟨q4, 0, none⟩), .int .i64 j, .bool t9.give, .int .i64 t9.slot, .int .i64 t9.ph, .int .i64 t9.top, .int .i64 t9.next] 131, memO m5 c6 l9 s9 o8, pt t.b1 #[.pointer (some ⟨t.b2, 0, none⟩), .bool false, .int .i64 t.sl, .int .i64 t.fr] 102, bundle ((ms4.eraseIdx j).map (maC q4)), pt wb10 #[.slice (some ⟨gH, 0, none⟩) H4.length c12] 93, own 3 1 (.slice (some ⟨gH, 0, none⟩) H4.length c12) H4.length (H4.map (Value.int .i64)), pt b13 ((vals (ms4.map maV))) 98] _ := hM.callL 3 hn; clear hn
                refine ⟨.slice a74 Y9.length c75, rfl, fun a hA => ?_⟩
                refine S.val hA (R.lenS Try.underlying43 rfl rfl) rfl ?_; clear hA a; intro a hA
                refine S.val hA (R.ff (R.gtr rfl rfl) (by first | omega | (simp; done))) rfl ?_; clear hA a; intro a hA
                refine S.done ?_
                replace hA : St 321 [(5, _), (8, _), (9, _), (21, _), (307, _)] a := hA.sub ((.cons rfl (.cons rfl (.cons rfl (.cons rfl (.cons rfl .nil))))))
                refine Ends.condF hA rfl ?_
                refine Ends.skip ?_
                refine Ends.inBlock ?_
                refine Ends.region ?_
                refine S.val hA (R.move rfl) rfl ?_; clear hA a; intro a hA
                refine S.val hA (R.addI rfl rfl (r := ((j : Int)) + 1) rfl (by first | omega | (simp; done))) rfl ?_; clear hA a; intro a hA
                refine S.val hA (R.assign rfl) rfl ?_; clear hA a; intro a hA
                refine S.done ?_
                replace hA : St 321 [(5, _), (8, _), (9, _), (21, _)] a := hA.sub ((.cons rfl (.cons rfl (.cons rfl (.cons rfl .nil)))))
                replace hM := hM.front (k := 7) rfl
                replace hM := hM.front (k := 5) rfl
                replace hM := hM.front (k := 7) rfl
                replace hM : Mem _ _ [pt t.b1 #[.pointer (some ⟨t.b2, 0, none⟩), .bool false, .int .i64 t.sl, .int .i64 t.fr] 102, pt t.b2 #[.pointer (some ⟨q4, 0, none⟩), .int .i64 j, .bool t9.give, .int .i64 t9.slot, .int .i64 t9.ph, .int .i64 t9.top, .int .i64 t9.next] 131, bundle ((ms4.eraseIdx j).map (maC q4)), own 3 1 (.slice a74 Y9.length c75) Y9.length (Y9.map (Value.int .i64)), pt q4 #[.pointer (some ⟨m5, 0, none⟩), .int .i64 3, .slice (some ⟨nb7, 0, none⟩) n.toNat n.toNat, .slice (some ⟨ob8, 0, none⟩) 4 4] 128, pt ob8 ((vals ((gs4.set j ⟨Y9, a8, c8⟩).map owV))) 43, bundle ((gs4.set j ⟨Y9, a8, c8⟩).map owC), memO m5 c6 l9 s9 o8, pt wb10 #[.slice (some ⟨gH, 0, none⟩) H4.length c12] 93, own 3 1 (.slice (some ⟨gH, 0, none⟩) H4.length c12) H4.length (H4.map (Value.int .i64)), pt b13 ((vals (ms4.map maV))) 98] _ := hM
                replace hM := (hM.pack (cs := [pt t.b1 #[.pointer (some ⟨t.b2, 0, none⟩), .bool false, .int .i64 t.sl, .int .i64 t.fr] 102, pt t.b2 #[.pointer (some ⟨q4, 0, none⟩), .int .i64 j, .bool t9.give, .int .i64 t9.slot, .int .i64 t9.ph, .int .i64 t9.top, .int .i64 t9.next] 131])).closeB (f := maC q4) (y := (some ⟨t.b1, t.b2, t9, false, t.sl, t.fr, (j : Int)⟩ : MS)) hmj
                rw [← maV_set (t' := ⟨t.b1, t.b2, t9, false, t.sl, t.fr, (j : Int)⟩) hmj rfl] at hM
                replace hM := hM.front (k := 8) rfl
                replace hM := hM.front (k := 8) rfl
                replace hM := hM.front (k := 8) rfl
                replace hM := hM.front (k := 8) rfl
                replace hM := hM.front (k := 8) rfl
                replace hM := hM.front (k := 8) rfl
                replace hM := hM.front (k := 8) rfl
                replace hM : Mem _ _ [pt q4 #[.pointer (some ⟨m5, 0, none⟩), .int .i64 3, .slice (some ⟨nb7, 0, none⟩) n.toNat n.toNat, .slice (some ⟨ob8, 0, none⟩) 4 4] 128, pt ob8 ((vals ((gs4.set j ⟨Y9, a8, c8⟩).map owV))) 43, bundle ((gs4.set j ⟨Y9, a8, c8⟩).map owC), memO m5 c6 l9 s9 o8, pt wb10 #[.slice (some ⟨gH, 0, none⟩) H4.length c12] 93, own 3 1 (.slice (some ⟨gH, 0, none⟩) H4.length c12) H4.length (H4.map (Value.int .i64)), pt b13 ((vals ((ms4.set j (some ⟨t.b1, t.b2, t9, false, t.sl, t.fr, (j : Int)⟩)).map maV))) 98, bundle ((ms4.set j (some ⟨t.b1, t.b2, t9, false, t.sl, t.fr, (j : Int)⟩)).map (maC q4)), own 3 1 (.slice a74 Y9.length c75) Y9.length (Y9.map (Value.int .i64))] _ := hM
                replace hM : Mem _ _ [pt q4 #[.pointer (some ⟨m5, 0, none⟩), .int .i64 3, .slice (some ⟨nb7, 0, none⟩) n.toNat n.toNat, .slice (some ⟨ob8, 0, none⟩) 4 4] 128, pt ob8 ((vals ((gs4.set j ⟨Y9, a8, c8⟩).map owV))) 43, bundle ((gs4.set j ⟨Y9, a8, c8⟩).map owC), memO m5 c6 l9 s9 o8, pt wb10 #[.slice (some ⟨gH, 0, none⟩) H4.length c12] 93, own 3 1 (.slice (some ⟨gH, 0, none⟩) H4.length c12) H4.length (H4.map (Value.int .i64)), pt b13 ((vals ((ms4.set j (some ⟨t.b1, t.b2, t9, false, t.sl, t.fr, (j : Int)⟩)).map maV))) 98, bundle ((ms4.set j (some ⟨t.b1, t.b2, t9, false, t.sl, t.fr, (j : Int)⟩)).map (maC q4))] _ := hM.firstN 8
                exact hNext2 ((j + 1, V4 + 1, l9, [], H4, s9, o8, (gs4.set j ⟨Y9, a8, c8⟩), (ms4.set j (some ⟨t.b1, t.b2, t9, false, t.sl, t.fr, (j : Int)⟩)), ac4.set j none)) _ _ ((by show 4 - (j + 1) < 4 - j; omega)) ⟨hA.sub ((.cons rfl (.cons rfl (.cons rfl (.cons rfl .nil))))), hM, (by omega), (by rw [show ((gs4.set j ⟨Y9, a8, c8⟩).map (·.Y)) = (gs4.map (·.Y)).set j Y9 by rw [List.map_set]]; exact hgi8), (by rw [List.length_set]; exact hgl4), (by rw [List.length_set]; exact hml4), (fun i x hi hx => by rcases set_cases hx with ⟨e, _⟩ | ⟨_, hx2⟩; exact absurd e (by omega); exact hmok4 i x (by omega) hx2), (fun i hi => by have h1 := hac4 i (by omega); rw [List.getElem?_set_ne (by omega), h1, tsOf_set, List.getElem?_set_ne (by omega)]), (by omega), (by omega)⟩
          · clear hA; intro hg67 hA
            refine S.no (dj := 263) hA (by kernel_rfl) rfl rfl rfl ?_; clear hA a; intro a hA
            refine S.no (dj := 263) hA (by kernel_rfl) rfl rfl rfl ?_; clear hA a; intro a hA
            refine S.no (dj := 263) hA (by kernel_rfl) rfl rfl rfl ?_; clear hA a; intro a hA
            refine S.no (dj := 263) hA (by kernel_rfl) rfl rfl rfl ?_; clear hA a; intro a hA
            refine S.no (dj := 263) hA (by kernel_rfl) rfl rfl rfl ?_; clear hA a; intro a hA
            refine S.no (dj := 263) hA (by kernel_rfl) rfl rfl rfl ?_; clear hA a; intro a hA
            refine S.val hA (R.pickF rfl rfl) rfl ?_; clear hA a; intro a hA
            refine S.done ?_
            replace hA : St 321 [(5, _), (8, _), (9, _), (21, _), (22, _), (270, _)] a := hA.sub ((.cons rfl (.cons rfl (.cons rfl (.cons rfl (.cons rfl (.cons rfl .nil)))))))
            refine Ends.condF hA rfl ?_
            refine Ends.skip ?_
            refine Ends.seq ?_
            refine Ends.region ?_
            refine S.val hA (R.move rfl) rfl ?_; clear hA a; intro a hA
            refine S.val hA (R.nilCheck rfl) rfl ?_; clear hA a; intro a hA
            refine S.val hA (R.fieldAddr (q := 0) fi102_0 rfl rfl rfl) rfl ?_; clear hA a; intro a hA
            refine S.val hA (R.load sz83 rfl (hM.cell (k := 5) rfl rfl)) rfl ?_; clear hA a; intro a hA
            refine S.call hA (R.callF Try.func56 rfl rfl rfl) rfl (pact_slot t.b2 q4 (j : Int) t9 hph9 _ (hM.block (k := 0) rfl)) ?_; clear hA a
            rintro e w52 ⟨rfl, rfl⟩
            refine ⟨.int .i64 t9.slot, rfl, fun a hA => ?_⟩
            refine S.val hA (R.assign rfl) rfl ?_; clear hA a; intro a hA
            refine S.done ?_
            replace hA : St 321 [(5, _), (8, _), (9, _), (21, _), (22, _), (23, _)] a := hA.sub ((.cons rfl (.cons rfl (.cons rfl (.cons rfl (.cons rfl (.cons rfl .nil)))))))
            refine Ends.seq ?_
            by_cases hs76 : t.gv = true
            ·
              have hgv := hs76
              have hgt : t.t.give = true := hk2.symm.trans hgv
              rw [hgv] at hM
              obtain ⟨xs8, hsl8, hgi8⟩ := pend_gave hpe hgt
              replace hsl8 : t9.slot = t.t.slot := hsl8
              rw [← hsl8] at hgi8
              have hrg := (hg4.acts _ _ hact).1.1 hgt
              have hHl := hg4.held.1
              refine Ends.region ?_
              refine S.val hA (R.move rfl) rfl ?_; clear hA a; intro a hA
              refine S.val hA (R.nilCheck rfl) rfl ?_; clear hA a; intro a hA
              refine S.val hA (R.fieldAddr (q := 1) fi102_1 rfl rfl rfl) rfl ?_; clear hA a; intro a hA
              refine S.val hA (R.load sz4 rfl (hM.cell (k := 5) rfl rfl)) rfl ?_; clear hA a; intro a hA
              refine S.done ?_
              replace hA : St 321 [(5, _), (8, _), (9, _), (21, _), (23, _), (279, _)] a := hA.sub ((.cons rfl (.cons rfl (.cons rfl (.cons rfl (.cons rfl (.cons rfl .nil)))))))
              refine Ends.condT hA rfl ?_
              refine Ends.region ?_
              refine S.val hA (R.move rfl) rfl ?_; clear hA a; intro a hA
              refine S.val hA (R.nilCheck rfl) rfl ?_; clear hA a; intro a hA
              refine S.val hA (R.fieldAddr (q := 0) fi93_0 rfl rfl rfl) rfl ?_; clear hA a; intro a hA
              refine S.val hA (R.load sz43 rfl (hM.cell (k := 7) rfl rfl)) rfl ?_; clear hA a; intro a hA
              refine S.val hA (R.move rfl) rfl ?_; clear hA a; intro a hA
              refine S.val hA (R.indexAddr (q := t9.slot.toNat) sl43 rfl rfl (by first | omega | (simp; done)) (by first | omega | (simp; done))) rfl ?_; clear hA a; intro a hA
              refine S.storeO (k := 8) hA hM sz3 rfl rfl rfl rfl (mapi_get H4 t9.slot.toNat (by first | omega | (simp; done))) ?_; clear hM; intro w53 hM; rw [mapi_set] at hM
              replace hM : Mem _ _ [pt t.b2 #[.pointer (some ⟨q4, 0, none⟩), .int .i64 j, .bool t9.give, .int .i64 t9.slot, .int .i64 t9.ph, .int .i64 t9.top, .int .i64 t9.next] 131, pt q4 #[.pointer (some ⟨m5, 0, none⟩), .int .i64 3, .slice (some ⟨nb7, 0, none⟩) n.toNat n.toNat, .slice (some ⟨ob8, 0, none⟩) 4 4] 128, pt ob8 ((vals ((gs4.set j ⟨Y9, a9, c9⟩).map owV))) 43, bundle ((gs4.set j ⟨Y9, a9, c9⟩).map owC), memO m5 c6 l9 s9 o9, pt t.b1 #[.pointer (some ⟨t.b2, 0, none⟩), .bool true, .int .i64 t.sl, .int .i64 t.fr] 102, bundle ((ms4.eraseIdx j).map (maC q4)), pt wb10 #[.slice (some ⟨gH, 0, none⟩) H4.length c12] 93, own 3 1 (.slice (some ⟨gH, 0, none⟩) H4.length c12) H4.length (((H4.set t9.slot.toNat (-1))).map (Value.int .i64)), pt b13 ((vals (ms4.map maV))) 98] _ := hM
              refine S.done ?_
              replace hA : St 321 [(5, _), (8, _), (9, _), (21, _)] a := hA.sub ((.cons rfl (.cons rfl (.cons rfl (.cons rfl .nil)))))
              refine Ends.seq ?_
              have hyl9 : Y9.length ≤ 2 := hgi8.own Y9 (List.mem_iff_getElem?.2 ⟨j, List.getElem?_set_self (by rw [List.length_map]; omega)⟩)
              refine Ends.region ?_
              refine S.val hA (R.move rfl) rfl ?_; clear hA a; intro a hA
              refine S.val hA (R.move rfl) rfl ?_; clear hA a; intro a hA
              replace hM := hM.front (k := 3) rfl
              replace hM := hM.front (k := 3) rfl
              replace hM := hM.front (k := 3) rfl
              replace hM : Mem _ _ [pt q4 #[.pointer (some ⟨m5, 0, none⟩), .int .i64 3, .slice (some ⟨nb7, 0, none⟩) n.toNat n.toNat, .slice (some ⟨ob8, 0, none⟩) 4 4] 128, pt ob8 ((vals ((gs4.set j ⟨Y9, a9, c9⟩).map owV))) 43, bundle ((gs4.set j ⟨Y9, a9, c9⟩).map owC), pt t.b2 #[.pointer (some ⟨q4, 0, none⟩), .int .i64 j, .bool t9.give, .int .i64 t9.slot, .int .i64 t9.ph, .int .i64 t9.top, .int .i64 t9.next] 131, memO m5 c6 l9 s9 o9, pt t.b1 #[.pointer (some ⟨t.b2, 0, none⟩), .bool true, .int .i64 t.sl, .int .i64 t.fr] 102, bundle ((ms4.eraseIdx j).map (maC q4)), pt wb10 #[.slice (some ⟨gH, 0, none⟩) H4.length c12] 93, own 3 1 (.slice (some ⟨gH, 0, none⟩) H4.length c12) H4.length (((H4.set t9.slot.toNat (-1))).map (Value.int .i64)), pt b13 ((vals (ms4.map maV))) 98] _ := hM
              refine S.call hA (R.callF Try.func52 rfl rfl rfl) rfl (pown_b q4 m5 nb7 n.toNat ob8 4 3 j (gs4.set j ⟨Y9, a9, c9⟩) (⟨Y9, a9, c9⟩ : OwS) (by omega) (List.getElem?_set_self (by omega)) (by show Y9.length ≤ 1000; omega) _ (hM.hereN 3)) ?_; clear hA a
              rintro e w54 ⟨a77, c78, rfl, hn⟩
              replace hM : Mem _ _ [own 3 1 (.slice a77 Y9.length c78) Y9.length (Y9.map (Value.int .i64)), pt q4 #[.pointer (some ⟨m5, 0, none⟩), .int .i64 3, .slice (some ⟨nb7, 0, none⟩) n.toNat n.toNat, .slice (some ⟨ob8, 0, none⟩) 4 4] 128, pt ob8 ((vals ((gs4.set j ⟨Y9, a9, c9⟩).map owV))) 43, bundle ((gs4.set j ⟨Y9, a9, c9⟩).map owC), pt t.b2 #[.pointer (some ⟨q4, 0, none⟩), .int .i64 j, .bool t9.give, .int .i64 t9.slot, .int .i64 t9.ph, .int .i64 t9.top, .int .i64 t9.next] 131, memO m5 c6 l9 s9 o9, pt t.b1 #[.pointer (some ⟨t.b2, 0, none⟩), .bool true, .int .i64 t.sl, .int .i64 t.fr] 102, bundle ((ms4.eraseIdx j).map (maC q4)), pt wb10 #[.slice (some ⟨gH, 0, none⟩) H4.length c12] 93, own 3 1 (.slice (some ⟨gH, 0, none⟩) H4.length c12) H4.length (((H4.set t9.slot.toNat (-1))).map (Value.int .i64)), pt b13 ((vals (ms4.map maV))) 98] _ := hM.callL 3 hn; clear hn
              refine ⟨.slice a77 Y9.length c78, rfl, fun a hA => ?_⟩
              refine S.val hA (R.lenS Try.underlying43 rfl rfl) rfl ?_; clear hA a; intro a hA
              refine S.val hA (R.ff (R.gtr rfl rfl) (by first | omega | (simp; done))) rfl ?_; clear hA a; intro a hA
              refine S.done ?_
              replace hA : St 321 [(5, _), (8, _), (9, _), (21, _), (307, _)] a := hA.sub ((.cons rfl (.cons rfl (.cons rfl (.cons rfl (.cons rfl .nil))))))
              refine Ends.condF hA rfl ?_
              refine Ends.skip ?_
              refine Ends.inBlock ?_
              refine Ends.region ?_
              refine S.val hA (R.move rfl) rfl ?_; clear hA a; intro a hA
              refine S.val hA (R.addI rfl rfl (r := ((j : Int)) + 1) rfl (by first | omega | (simp; done))) rfl ?_; clear hA a; intro a hA
              refine S.val hA (R.assign rfl) rfl ?_; clear hA a; intro a hA
              refine S.done ?_
              replace hA : St 321 [(5, _), (8, _), (9, _), (21, _)] a := hA.sub ((.cons rfl (.cons rfl (.cons rfl (.cons rfl .nil)))))
              rw [show H4.length = ((H4.set t9.slot.toNat (-1))).length by simp] at hM
              replace hM := hM.front (k := 7) rfl
              replace hM := hM.front (k := 5) rfl
              replace hM := hM.front (k := 7) rfl
              replace hM : Mem _ _ [pt t.b1 #[.pointer (some ⟨t.b2, 0, none⟩), .bool true, .int .i64 t.sl, .int .i64 t.fr] 102, pt t.b2 #[.pointer (some ⟨q4, 0, none⟩), .int .i64 j, .bool t9.give, .int .i64 t9.slot, .int .i64 t9.ph, .int .i64 t9.top, .int .i64 t9.next] 131, bundle ((ms4.eraseIdx j).map (maC q4)), own 3 1 (.slice a77 Y9.length c78) Y9.length (Y9.map (Value.int .i64)), pt q4 #[.pointer (some ⟨m5, 0, none⟩), .int .i64 3, .slice (some ⟨nb7, 0, none⟩) n.toNat n.toNat, .slice (some ⟨ob8, 0, none⟩) 4 4] 128, pt ob8 ((vals ((gs4.set j ⟨Y9, a9, c9⟩).map owV))) 43, bundle ((gs4.set j ⟨Y9, a9, c9⟩).map owC), memO m5 c6 l9 s9 o9, pt wb10 #[.slice (some ⟨gH, 0, none⟩) (((H4.set t9.slot.toNat (-1))).length) c12] 93, own 3 1 (.slice (some ⟨gH, 0, none⟩) (((H4.set t9.slot.toNat (-1))).length) c12) (((H4.set t9.slot.toNat (-1))).length) (((H4.set t9.slot.toNat (-1))).map (Value.int .i64)), pt b13 ((vals (ms4.map maV))) 98] _ := hM
              replace hM := (hM.pack (cs := [pt t.b1 #[.pointer (some ⟨t.b2, 0, none⟩), .bool true, .int .i64 t.sl, .int .i64 t.fr] 102, pt t.b2 #[.pointer (some ⟨q4, 0, none⟩), .int .i64 j, .bool t9.give, .int .i64 t9.slot, .int .i64 t9.ph, .int .i64 t9.top, .int .i64 t9.next] 131])).closeB (f := maC q4) (y := (some ⟨t.b1, t.b2, t9, true, t.sl, t.fr, (j : Int)⟩ : MS)) hmj
              rw [← maV_set (t' := ⟨t.b1, t.b2, t9, true, t.sl, t.fr, (j : Int)⟩) hmj rfl] at hM
              replace hM := hM.front (k := 8) rfl
              replace hM := hM.front (k := 8) rfl
              replace hM := hM.front (k := 8) rfl
              replace hM := hM.front (k := 8) rfl
              replace hM := hM.front (k := 8) rfl
              replace hM := hM.front (k := 8) rfl
              replace hM := hM.front (k := 8) rfl
              replace hM : Mem _ _ [pt q4 #[.pointer (some ⟨m5, 0, none⟩), .int .i64 3, .slice (some ⟨nb7, 0, none⟩) n.toNat n.toNat, .slice (some ⟨ob8, 0, none⟩) 4 4] 128, pt ob8 ((vals ((gs4.set j ⟨Y9, a9, c9⟩).map owV))) 43, bundle ((gs4.set j ⟨Y9, a9, c9⟩).map owC), memO m5 c6 l9 s9 o9, pt wb10 #[.slice (some ⟨gH, 0, none⟩) (((H4.set t9.slot.toNat (-1))).length) c12] 93, own 3 1 (.slice (some ⟨gH, 0, none⟩) (((H4.set t9.slot.toNat (-1))).length) c12) (((H4.set t9.slot.toNat (-1))).length) (((H4.set t9.slot.toNat (-1))).map (Value.int .i64)), pt b13 ((vals ((ms4.set j (some ⟨t.b1, t.b2, t9, true, t.sl, t.fr, (j : Int)⟩)).map maV))) 98, bundle ((ms4.set j (some ⟨t.b1, t.b2, t9, true, t.sl, t.fr, (j : Int)⟩)).map (maC q4)), own 3 1 (.slice a77 Y9.length c78) Y9.length (Y9.map (Value.int .i64))] _ := hM
              replace hM : Mem _ _ [pt q4 #[.pointer (some ⟨m5, 0, none⟩), .int .i64 3, .slice (some ⟨nb7, 0, none⟩) n.toNat n.toNat, .slice (some ⟨ob8, 0, none⟩) 4 4] 128, pt ob8 ((vals ((gs4.set j ⟨Y9, a9, c9⟩).map owV))) 43, bundle ((gs4.set j ⟨Y9, a9, c9⟩).map owC), memO m5 c6 l9 s9 o9, pt wb10 #[.slice (some ⟨gH, 0, none⟩) (((H4.set t9.slot.toNat (-1))).length) c12] 93, own 3 1 (.slice (some ⟨gH, 0, none⟩) (((H4.set t9.slot.toNat (-1))).length) c12) (((H4.set t9.slot.toNat (-1))).length) (((H4.set t9.slot.toNat (-1))).map (Value.int .i64)), pt b13 ((vals ((ms4.set j (some ⟨t.b1, t.b2, t9, true, t.sl, t.fr, (j : Int)⟩)).map maV))) 98, bundle ((ms4.set j (some ⟨t.b1, t.b2, t9, true, t.sl, t.fr, (j : Int)⟩)).map (maC q4))] _ := hM.firstN 8
              exact hNext2 ((j + 1, V4 + 1, l9, xs8, (H4.set t9.slot.toNat (-1)), s9, o9, (gs4.set j ⟨Y9, a9, c9⟩), (ms4.set j (some ⟨t.b1, t.b2, t9, true, t.sl, t.fr, (j : Int)⟩)), ac4.set j none)) _ _ ((by show 4 - (j + 1) < 4 - j; omega)) ⟨hA.sub ((.cons rfl (.cons rfl (.cons rfl (.cons rfl .nil))))), hM, (by omega), (by rw [show ((gs4.set j ⟨Y9, a9, c9⟩).map (·.Y)) = (gs4.map (·.Y)).set j Y9 by rw [List.map_set]]; exact hgi8), (by rw [List.length_set]; exact hgl4), (by rw [List.length_set]; exact hml4), (fun i x hi hx => by rcases set_cases hx with ⟨e, _⟩ | ⟨_, hx2⟩; exact absurd e (by omega); exact hmok4 i x (by omega) hx2), (fun i hi => by have h1 := hac4 i (by omega); rw [List.getElem?_set_ne (by omega), h1, tsOf_set, List.getElem?_set_ne (by omega)]), (by omega), (by omega)⟩
            ·
              have hgv : t.gv = false := by simpa using hs76
              have hgt : t.t.give = false := hk2.symm.trans hgv
              rw [hgv] at hM
              have hHl := hg4.held.1
              refine Ends.region ?_
              refine S.val hA (R.move rfl) rfl ?_; clear hA a; intro a hA
              refine S.val hA (R.nilCheck rfl) rfl ?_; clear hA a; intro a hA
              refine S.val hA (R.fieldAddr (q := 1) fi102_1 rfl rfl rfl) rfl ?_; clear hA a; intro a hA
              refine S.val hA (R.load sz4 rfl (hM.cell (k := 5) rfl rfl)) rfl ?_; clear hA a; intro a hA
              refine S.done ?_
              replace hA : St 321 [(5, _), (8, _), (9, _), (21, _), (23, _), (279, _)] a := hA.sub ((.cons rfl (.cons rfl (.cons rfl (.cons rfl (.cons rfl (.cons rfl .nil)))))))
              refine Ends.condF hA rfl ?_
              refine Ends.seq ?_
              by_cases hs79 : 0 ≤ t9.slot
              ·
                obtain ⟨xs8, hsl9, hfr9, hgi8⟩ := pend_took hpe hgt hs79 (hk4 hgv)
                replace hsl9 : t9.slot < n := hsl9
                replace hfr9 : H4.getD t9.slot.toNat 0 = -1 := hfr9
                refine Ends.region ?_
                refine S.val hA (R.move rfl) rfl ?_; clear hA a; intro a hA
                refine S.val hA (R.tt (R.geq rfl rfl) (by first | omega | (simp; done))) rfl ?_; clear hA a; intro a hA
                refine S.done ?_
                replace hA : St 321 [(5, _), (8, _), (9, _), (21, _), (23, _), (287, _)] a := hA.sub ((.cons rfl (.cons rfl (.cons rfl (.cons rfl (.cons rfl (.cons rfl .nil)))))))
                refine Ends.condT hA rfl ?_
                refine Ends.seq ?_
                refine Ends.seq ?_
                refine Ends.region ?_
                refine S.val hA (R.move rfl) rfl ?_; clear hA a; intro a hA
                refine S.val hA (R.nilCheck rfl) rfl ?_; clear hA a; intro a hA
                refine S.val hA (R.fieldAddr (q := 0) fi93_0 rfl rfl rfl) rfl ?_; clear hA a; intro a hA
                refine S.val hA (R.load sz43 rfl (hM.cell (k := 7) rfl rfl)) rfl ?_; clear hA a; intro a hA
                refine S.val hA (R.move rfl) rfl ?_; clear hA a; intro a hA
                refine S.val hA (R.indexAddr (q := t9.slot.toNat) sl43 rfl rfl (by first | omega | (simp; done)) (by first | omega | (simp; done))) rfl ?_; clear hA a; intro a hA
                refine S.val hA (R.load sz3 rfl (hM.ownCell (k := 8) rfl (mapi_get _ _ (by first | omega | (simp; done))))) rfl ?_; clear hA a; intro a hA
                refine S.val hA (R.ff (R.neq rfl rfl) (by first | omega | (simp; done))) rfl ?_; clear hA a; intro a hA
                refine S.done ?_
                replace hA : St 321 [(5, _), (8, _), (9, _), (21, _), (23, _), (295, _)] a := hA.sub ((.cons rfl (.cons rfl (.cons rfl (.cons rfl (.cons rfl (.cons rfl .nil)))))))
                refine Ends.condF hA rfl ?_
                refine Ends.skip ?_
                refine Ends.region ?_
                refine S.val hA (R.move rfl) rfl ?_; clear hA a; intro a hA
                refine S.val hA (R.nilCheck rfl) rfl ?_; clear hA a; intro a hA
                refine S.val hA (R.fieldAddr (q := 0) fi93_0 rfl rfl rfl) rfl ?_; clear hA a; intro a hA
                refine S.val hA (R.load sz43 rfl (hM.cell (k := 7) rfl rfl)) rfl ?_; clear hA a; intro a hA
                refine S.val hA (R.move rfl) rfl ?_; clear hA a; intro a hA
                refine S.val hA (R.move rfl) rfl ?_; clear hA a; intro a hA
                refine S.val hA (R.indexAddr (q := t9.slot.toNat) sl43 rfl rfl (by first | omega | (simp; done)) (by first | omega | (simp; done))) rfl ?_; clear hA a; intro a hA
                refine S.storeO (k := 8) hA hM sz3 rfl rfl rfl rfl (mapi_get H4 t9.slot.toNat (by first | omega | (simp; done))) ?_; clear hM; intro w55 hM; rw [mapi_set] at hM
                replace hM : Mem _ _ [pt t.b2 #[.pointer (some ⟨q4, 0, none⟩), .int .i64 j, .bool t9.give, .int .i64 t9.slot, .int .i64 t9.ph, .int .i64 t9.top, .int .i64 t9.next] 131, pt q4 #[.pointer (some ⟨m5, 0, none⟩), .int .i64 3, .slice (some ⟨nb7, 0, none⟩) n.toNat n.toNat, .slice (some ⟨ob8, 0, none⟩) 4 4] 128, pt ob8 ((vals ((gs4.set j ⟨Y9, a9, c9⟩).map owV))) 43, bundle ((gs4.set j ⟨Y9, a9, c9⟩).map owC), memO m5 c6 l9 s9 o9, pt t.b1 #[.pointer (some ⟨t.b2, 0, none⟩), .bool false, .int .i64 t.sl, .int .i64 t.fr] 102, bundle ((ms4.eraseIdx j).map (maC q4)), pt wb10 #[.slice (some ⟨gH, 0, none⟩) H4.length c12] 93, own 3 1 (.slice (some ⟨gH, 0, none⟩) H4.length c12) H4.length (((H4.set t9.slot.toNat ((j : Int)))).map (Value.int .i64)), pt b13 ((vals (ms4.map maV))) 98] _ := hM
                refine S.done ?_
                replace hA : St 321 [(5, _), (8, _), (9, _), (21, _)] a := hA.sub ((.cons rfl (.cons rfl (.cons rfl (.cons rfl .nil)))))
                refine Ends.seq ?_
                have hyl9 : Y9.length ≤ 2 := hgi8.own Y9 (List.mem_iff_getElem?.2 ⟨j, List.getElem?_set_self (by rw [List.length_map]; omega)⟩)
                refine Ends.region ?_
                refine S.val hA (R.move rfl) rfl ?_; clear hA a; intro a hA
                refine S.val hA (R.move rfl) rfl ?_; clear hA a; intro a hA
                replace hM := hM.front (k := 3) rfl
                replace hM := hM.front (k := 3) rfl
                replace hM := hM.front (k := 3) rfl
                replace hM : Mem _ _ [pt q4 #[.pointer (some ⟨m5, 0, none⟩), .int .i64 3, .slice (some ⟨nb7, 0, none⟩) n.toNat n.toNat, .slice (some ⟨ob8, 0, none⟩) 4 4] 128, pt ob8 ((vals ((gs4.set j ⟨Y9, a9, c9⟩).map owV))) 43, bundle ((gs4.set j ⟨Y9, a9, c9⟩).map owC), pt t.b2 #[.pointer (some ⟨q4, 0, none⟩), .int .i64 j, .bool t9.give, .int .i64 t9.slot, .int .i64 t9.ph, .int .i64 t9.top, .int .i64 t9.next] 131, memO m5 c6 l9 s9 o9, pt t.b1 #[.pointer (some ⟨t.b2, 0, none⟩), .bool false, .int .i64 t.sl, .int .i64 t.fr] 102, bundle ((ms4.eraseIdx j).map (maC q4)), pt wb10 #[.slice (some ⟨gH, 0, none⟩) H4.length c12] 93, own 3 1 (.slice (some ⟨gH, 0, none⟩) H4.length c12) H4.length (((H4.set t9.slot.toNat ((j : Int)))).map (Value.int .i64)), pt b13 ((vals (ms4.map maV))) 98] _ := hM
                refine S.call hA (R.callF Try.func52 rfl rfl rfl) rfl (pown_b q4 m5 nb7 n.toNat ob8 4 3 j (gs4.set j ⟨Y9, a9, c9⟩) (⟨Y9, a9, c9⟩ : OwS) (by omega) (List.getElem?_set_self (by omega)) (by show Y9.length ≤ 1000; omega) _ (hM.hereN 3)) ?_; clear hA a
                rintro e w56 ⟨a80, c81, rfl, hn⟩
                replace hM : Mem _ _ [own 3 1 (.slice a80 Y9.length c81) Y9.length (Y9.map (Value.int .i64)), pt q4 #[.pointer (some ⟨m5, 0, none⟩), .int .i64 3, .slice (some ⟨nb7, 0, none⟩) n.toNat n.toNat, .slice (some ⟨ob8, 0, none⟩) 4 4] 128, pt ob8 ((vals ((gs4.set j ⟨Y9, a9, c9⟩).map owV))) 43, bundle ((gs4.set j ⟨Y9, a9, c9⟩).map owC), pt t.b2 #[.pointer (some ⟨q4, 0, none⟩), .int .i64 j, .bool t9.give, .int .i64 t9.slot, .int .i64 t9.ph, .int .i64 t9.top, .int .i64 t9.next] 131, memO m5 c6 l9 s9 o9, pt t.b1 #[.pointer (some ⟨t.b2, 0, none⟩), .bool false, .int .i64 t.sl, .int .i64 t.fr] 102, bundle ((ms4.eraseIdx j).map (maC q4)), pt wb10 #[.slice (some ⟨gH, 0, none⟩) H4.length c12] 93, own 3 1 (.slice (some ⟨gH, 0, none⟩) H4.length c12) H4.length (((H4.set t9.slot.toNat ((j : Int)))).map (Value.int .i64)), pt b13 ((vals (ms4.map maV))) 98] _ := hM.callL 3 hn; clear hn
                refine ⟨.slice a80 Y9.length c81, rfl, fun a hA => ?_⟩
                refine S.val hA (R.lenS Try.underlying43 rfl rfl) rfl ?_; clear hA a; intro a hA
                refine S.val hA (R.ff (R.gtr rfl rfl) (by first | omega | (simp; done))) rfl ?_; clear hA a; intro a hA
                refine S.done ?_
                replace hA : St 321 [(5, _), (8, _), (9, _), (21, _), (307, _)] a := hA.sub ((.cons rfl (.cons rfl (.cons rfl (.cons rfl (.cons rfl .nil))))))
                refine Ends.condF hA rfl ?_
                refine Ends.skip ?_
                refine Ends.inBlock ?_
                refine Ends.region ?_
                refine S.val hA (R.move rfl) rfl ?_; clear hA a; intro a hA
                refine S.val hA (R.addI rfl rfl (r := ((j : Int)) + 1) rfl (by first | omega | (simp; done))) rfl ?_; clear hA a; intro a hA
                refine S.val hA (R.assign rfl) rfl ?_; clear hA a; intro a hA
                refine S.done ?_
                replace hA : St 321 [(5, _), (8, _), (9, _), (21, _)] a := hA.sub ((.cons rfl (.cons rfl (.cons rfl (.cons rfl .nil)))))
                rw [show H4.length = ((H4.set t9.slot.toNat ((j : Int)))).length by simp] at hM
                replace hM := hM.front (k := 7) rfl
                replace hM := hM.front (k := 5) rfl
                replace hM := hM.front (k := 7) rfl
                replace hM : Mem _ _ [pt t.b1 #[.pointer (some ⟨t.b2, 0, none⟩), .bool false, .int .i64 t.sl, .int .i64 t.fr] 102, pt t.b2 #[.pointer (some ⟨q4, 0, none⟩), .int .i64 j, .bool t9.give, .int .i64 t9.slot, .int .i64 t9.ph, .int .i64 t9.top, .int .i64 t9.next] 131, bundle ((ms4.eraseIdx j).map (maC q4)), own 3 1 (.slice a80 Y9.length c81) Y9.length (Y9.map (Value.int .i64)), pt q4 #[.pointer (some ⟨m5, 0, none⟩), .int .i64 3, .slice (some ⟨nb7, 0, none⟩) n.toNat n.toNat, .slice (some ⟨ob8, 0, none⟩) 4 4] 128, pt ob8 ((vals ((gs4.set j ⟨Y9, a9, c9⟩).map owV))) 43, bundle ((gs4.set j ⟨Y9, a9, c9⟩).map owC), memO m5 c6 l9 s9 o9, pt wb10 #[.slice (some ⟨gH, 0, none⟩) (((H4.set t9.slot.toNat ((j : Int)))).length) c12] 93, own 3 1 (.slice (some ⟨gH, 0, none⟩) (((H4.set t9.slot.toNat ((j : Int)))).length) c12) (((H4.set t9.slot.toNat ((j : Int)))).length) (((H4.set t9.slot.toNat ((j : Int)))).map (Value.int .i64)), pt b13 ((vals (ms4.map maV))) 98] _ := hM
                replace hM := (hM.pack (cs := [pt t.b1 #[.pointer (some ⟨t.b2, 0, none⟩), .bool false, .int .i64 t.sl, .int .i64 t.fr] 102, pt t.b2 #[.pointer (some ⟨q4, 0, none⟩), .int .i64 j, .bool t9.give, .int .i64 t9.slot, .int .i64 t9.ph, .int .i64 t9.top, .int .i64 t9.next] 131])).closeB (f := maC q4) (y := (some ⟨t.b1, t.b2, t9, false, t.sl, t.fr, (j : Int)⟩ : MS)) hmj
                rw [← maV_set (t' := ⟨t.b1, t.b2, t9, false, t.sl, t.fr, (j : Int)⟩) hmj rfl] at hM
                replace hM := hM.front (k := 8) rfl
                replace hM := hM.front (k := 8) rfl
                replace hM := hM.front (k := 8) rfl
                replace hM := hM.front (k := 8) rfl
                replace hM := hM.front (k := 8) rfl
                replace hM := hM.front (k := 8) rfl
                replace hM := hM.front (k := 8) rfl
                replace hM : Mem _ _ [pt q4 #[.pointer (some ⟨m5, 0, none⟩), .int .i64 3, .slice (some ⟨nb7, 0, none⟩) n.toNat n.toNat, .slice (some ⟨ob8, 0, none⟩) 4 4] 128, pt ob8 ((vals ((gs4.set j ⟨Y9, a9, c9⟩).map owV))) 43, bundle ((gs4.set j ⟨Y9, a9, c9⟩).map owC), memO m5 c6 l9 s9 o9, pt wb10 #[.slice (some ⟨gH, 0, none⟩) (((H4.set t9.slot.toNat ((j : Int)))).length) c12] 93, own 3 1 (.slice (some ⟨gH, 0, none⟩) (((H4.set t9.slot.toNat ((j : Int)))).length) c12) (((H4.set t9.slot.toNat ((j : Int)))).length) (((H4.set t9.slot.toNat ((j : Int)))).map (Value.int .i64)), pt b13 ((vals ((ms4.set j (some ⟨t.b1, t.b2, t9, false, t.sl, t.fr, (j : Int)⟩)).map maV))) 98, bundle ((ms4.set j (some ⟨t.b1, t.b2, t9, false, t.sl, t.fr, (j : Int)⟩)).map (maC q4)), own 3 1 (.slice a80 Y9.length c81) Y9.length (Y9.map (Value.int .i64))] _ := hM
                replace hM : Mem _ _ [pt q4 #[.pointer (some ⟨m5, 0, none⟩), .int .i64 3, .slice (some ⟨nb7, 0, none⟩) n.toNat n.toNat, .slice (some ⟨ob8, 0, none⟩) 4 4] 128, pt ob8 ((vals ((gs4.set j ⟨Y9, a9, c9⟩).map owV))) 43, bundle ((gs4.set j ⟨Y9, a9, c9⟩).map owC), memO m5 c6 l9 s9 o9, pt wb10 #[.slice (some ⟨gH, 0, none⟩) (((H4.set t9.slot.toNat ((j : Int)))).length) c12] 93, own 3 1 (.slice (some ⟨gH, 0, none⟩) (((H4.set t9.slot.toNat ((j : Int)))).length) c12) (((H4.set t9.slot.toNat ((j : Int)))).length) (((H4.set t9.slot.toNat ((j : Int)))).map (Value.int .i64)), pt b13 ((vals ((ms4.set j (some ⟨t.b1, t.b2, t9, false, t.sl, t.fr, (j : Int)⟩)).map maV))) 98, bundle ((ms4.set j (some ⟨t.b1, t.b2, t9, false, t.sl, t.fr, (j : Int)⟩)).map (maC q4))] _ := hM.firstN 8
                exact hNext2 ((j + 1, V4 + 1, l9, xs8, (H4.set t9.slot.toNat ((j : Int))), s9, o9, (gs4.set j ⟨Y9, a9, c9⟩), (ms4.set j (some ⟨t.b1, t.b2, t9, false, t.sl, t.fr, (j : Int)⟩)), ac4.set j none)) _ _ ((by show 4 - (j + 1) < 4 - j; omega)) ⟨hA.sub ((.cons rfl (.cons rfl (.cons rfl (.cons rfl .nil))))), hM, (by omega), (by rw [show ((gs4.set j ⟨Y9, a9, c9⟩).map (·.Y)) = (gs4.map (·.Y)).set j Y9 by rw [List.map_set]]; exact hgi8), (by rw [List.length_set]; exact hgl4), (by rw [List.length_set]; exact hml4), (fun i x hi hx => by rcases set_cases hx with ⟨e, _⟩ | ⟨_, hx2⟩; exact absurd e (by omega); exact hmok4 i x (by omega) hx2), (fun i hi => by have h1 := hac4 i (by omega); rw [List.getElem?_set_ne (by omega), h1, tsOf_set, List.getElem?_set_ne (by omega)]), (by omega), (by omega)⟩
              ·
                have hgi8 := pend_empty hpe hgt (by show t9.slot < 0; omega)
                refine Ends.region ?_
                refine S.val hA (R.move rfl) rfl ?_; clear hA a; intro a hA
                refine S.val hA (R.ff (R.geq rfl rfl) (by first | omega | (simp; done))) rfl ?_; clear hA a; intro a hA
                refine S.done ?_
                replace hA : St 321 [(5, _), (8, _), (9, _), (21, _), (23, _), (287, _)] a := hA.sub ((.cons rfl (.cons rfl (.cons rfl (.cons rfl (.cons rfl (.cons rfl .nil)))))))
                refine Ends.condF hA rfl ?_
                refine Ends.skip ?_
                refine Ends.seq ?_
                have hyl9 : Y9.length ≤ 2 := hgi8.own Y9 (List.mem_iff_getElem?.2 ⟨j, List.getElem?_set_self (by rw [List.length_map]; omega)⟩)
                refine Ends.region ?_
                refine S.val hA (R.move rfl) rfl ?_; clear hA a; intro a hA
                refine S.val hA (R.move rfl) rfl ?_; clear hA a; intro a hA
                replace hM := hM.front (k := 3) rfl
                replace hM := hM.front (k := 3) rfl
                replace hM := hM.front (k := 3) rfl
                replace hM : Mem _ _ [pt q4 #[.pointer (some ⟨m5, 0, none⟩), .int .i64 3, .slice (some ⟨nb7, 0, none⟩) n.toNat n.toNat, .slice (some ⟨ob8, 0, none⟩) 4 4] 128, pt ob8 ((vals ((gs4.set j ⟨Y9, a9, c9⟩).map owV))) 43, bundle ((gs4.set j ⟨Y9, a9, c9⟩).map owC), pt t.b2 #[.pointer (some ⟨q4, 0, none⟩), .int .i64 j, .bool t9.give, .int .i64 t9.slot, .int .i64 t9.ph, .int .i64 t9.top, .int .i64 t9.next] 131, memO m5 c6 l9 s9 o9, pt t.b1 #[.pointer (some ⟨t.b2, 0, none⟩), .bool false, .int .i64 t.sl, .int .i64 t.fr] 102, bundle ((ms4.eraseIdx j).map (maC q4)), pt wb10 #[.slice (some ⟨gH, 0, none⟩) H4.length c12] 93, own 3 1 (.slice (some ⟨gH, 0, none⟩) H4.length c12) H4.length (H4.map (Value.int .i64)), pt b13 ((vals (ms4.map maV))) 98] _ := hM
                refine S.call hA (R.callF Try.func52 rfl rfl rfl) rfl (pown_b q4 m5 nb7 n.toNat ob8 4 3 j (gs4.set j ⟨Y9, a9, c9⟩) (⟨Y9, a9, c9⟩ : OwS) (by omega) (List.getElem?_set_self (by omega)) (by show Y9.length ≤ 1000; omega) _ (hM.hereN 3)) ?_; clear hA a
                rintro e w57 ⟨a82, c83, rfl, hn⟩
                replace hM : Mem _ _ [own 3 1 (.slice a82 Y9.length c83) Y9.length (Y9.map (Value.int .i64)), pt q4 #[.pointer (some ⟨m5, 0, none⟩), .int .i64 3, .slice (some ⟨nb7, 0, none⟩) n.toNat n.toNat, .slice (some ⟨ob8, 0, none⟩) 4 4] 128, pt ob8 ((vals ((gs4.set j ⟨Y9, a9, c9⟩).map owV))) 43, bundle ((gs4.set j ⟨Y9, a9, c9⟩).map owC), pt t.b2 #[.pointer (some ⟨q4, 0, none⟩), .int .i64 j, .bool t9.give, .int .i64 t9.slot, .int .i64 t9.ph, .int .i64 t9.top, .int .i64 t9.next] 131, memO m5 c6 l9 s9 o9, pt t.b1 #[.pointer (some ⟨t.b2, 0, none⟩), .bool false, .int .i64 t.sl, .int .i64 t.fr] 102, bundle ((ms4.eraseIdx j).map (maC q4)), pt wb10 #[.slice (some ⟨gH, 0, none⟩) H4.length c12] 93, own 3 1 (.slice (some ⟨gH, 0, none⟩) H4.length c12) H4.length (H4.map (Value.int .i64)), pt b13 ((vals (ms4.map maV))) 98] _ := hM.callL 3 hn; clear hn
                refine ⟨.slice a82 Y9.length c83, rfl, fun a hA => ?_⟩
                refine S.val hA (R.lenS Try.underlying43 rfl rfl) rfl ?_; clear hA a; intro a hA
                refine S.val hA (R.ff (R.gtr rfl rfl) (by first | omega | (simp; done))) rfl ?_; clear hA a; intro a hA
                refine S.done ?_
                replace hA : St 321 [(5, _), (8, _), (9, _), (21, _), (307, _)] a := hA.sub ((.cons rfl (.cons rfl (.cons rfl (.cons rfl (.cons rfl .nil))))))
                refine Ends.condF hA rfl ?_
                refine Ends.skip ?_
                refine Ends.inBlock ?_
                refine Ends.region ?_
                refine S.val hA (R.move rfl) rfl ?_; clear hA a; intro a hA
                refine S.val hA (R.addI rfl rfl (r := ((j : Int)) + 1) rfl (by first | omega | (simp; done))) rfl ?_; clear hA a; intro a hA
                refine S.val hA (R.assign rfl) rfl ?_; clear hA a; intro a hA
                refine S.done ?_
                replace hA : St 321 [(5, _), (8, _), (9, _), (21, _)] a := hA.sub ((.cons rfl (.cons rfl (.cons rfl (.cons rfl .nil)))))
                replace hM := hM.front (k := 7) rfl
                replace hM := hM.front (k := 5) rfl
                replace hM := hM.front (k := 7) rfl
                replace hM : Mem _ _ [pt t.b1 #[.pointer (some ⟨t.b2, 0, none⟩), .bool false, .int .i64 t.sl, .int .i64 t.fr] 102, pt t.b2 #[.pointer (some ⟨q4, 0, none⟩), .int .i64 j, .bool t9.give, .int .i64 t9.slot, .int .i64 t9.ph, .int .i64 t9.top, .int .i64 t9.next] 131, bundle ((ms4.eraseIdx j).map (maC q4)), own 3 1 (.slice a82 Y9.length c83) Y9.length (Y9.map (Value.int .i64)), pt q4 #[.pointer (some ⟨m5, 0, none⟩), .int .i64 3, .slice (some ⟨nb7, 0, none⟩) n.toNat n.toNat, .slice (some ⟨ob8, 0, none⟩) 4 4] 128, pt ob8 ((vals ((gs4.set j ⟨Y9, a9, c9⟩).map owV))) 43, bundle ((gs4.set j ⟨Y9, a9, c9⟩).map owC), memO m5 c6 l9 s9 o9, pt wb10 #[.slice (some ⟨gH, 0, none⟩) H4.length c12] 93, own 3 1 (.slice (some ⟨gH, 0, none⟩) H4.length c12) H4.length (H4.map (Value.int .i64)), pt b13 ((vals (ms4.map maV))) 98] _ := hM
                replace hM := (hM.pack (cs := [pt t.b1 #[.pointer (some ⟨t.b2, 0, none⟩), .bool false, .int .i64 t.sl, .int .i64 t.fr] 102, pt t.b2 #[.pointer (some ⟨q4, 0, none⟩), .int .i64 j, .bool t9.give, .int .i64 t9.slot, .int .i64 t9.ph, .int .i64 t9.top, .int .i64 t9.next] 131])).closeB (f := maC q4) (y := (some ⟨t.b1, t.b2, t9, false, t.sl, t.fr, (j : Int)⟩ : MS)) hmj
                rw [← maV_set (t' := ⟨t.b1, t.b2, t9, false, t.sl, t.fr, (j : Int)⟩) hmj rfl] at hM
                replace hM := hM.front (k := 8) rfl
                replace hM := hM.front (k := 8) rfl
                replace hM := hM.front (k := 8) rfl
                replace hM := hM.front (k := 8) rfl
                replace hM := hM.front (k := 8) rfl
                replace hM := hM.front (k := 8) rfl
                replace hM := hM.front (k := 8) rfl
                replace hM : Mem _ _ [pt q4 #[.pointer (some ⟨m5, 0, none⟩), .int .i64 3, .slice (some ⟨nb7, 0, none⟩) n.toNat n.toNat, .slice (some ⟨ob8, 0, none⟩) 4 4] 128, pt ob8 ((vals ((gs4.set j ⟨Y9, a9, c9⟩).map owV))) 43, bundle ((gs4.set j ⟨Y9, a9, c9⟩).map owC), memO m5 c6 l9 s9 o9, pt wb10 #[.slice (some ⟨gH, 0, none⟩) H4.length c12] 93, own 3 1 (.slice (some ⟨gH, 0, none⟩) H4.length c12) H4.length (H4.map (Value.int .i64)), pt b13 ((vals ((ms4.set j (some ⟨t.b1, t.b2, t9, false, t.sl, t.fr, (j : Int)⟩)).map maV))) 98, bundle ((ms4.set j (some ⟨t.b1, t.b2, t9, false, t.sl, t.fr, (j : Int)⟩)).map (maC q4)), own 3 1 (.slice a82 Y9.length c83) Y9.length (Y9.map (Value.int .i64))] _ := hM
                replace hM : Mem _ _ [pt q4 #[.pointer (some ⟨m5, 0, none⟩), .int .i64 3, .slice (some ⟨nb7, 0, none⟩) n.toNat n.toNat, .slice (some ⟨ob8, 0, none⟩) 4 4] 128, pt ob8 ((vals ((gs4.set j ⟨Y9, a9, c9⟩).map owV))) 43, bundle ((gs4.set j ⟨Y9, a9, c9⟩).map owC), memO m5 c6 l9 s9 o9, pt wb10 #[.slice (some ⟨gH, 0, none⟩) H4.length c12] 93, own 3 1 (.slice (some ⟨gH, 0, none⟩) H4.length c12) H4.length (H4.map (Value.int .i64)), pt b13 ((vals ((ms4.set j (some ⟨t.b1, t.b2, t9, false, t.sl, t.fr, (j : Int)⟩)).map maV))) 98, bundle ((ms4.set j (some ⟨t.b1, t.b2, t9, false, t.sl, t.fr, (j : Int)⟩)).map (maC q4))] _ := hM.firstN 8
                exact hNext2 ((j + 1, V4 + 1, l9, [], H4, s9, o9, (gs4.set j ⟨Y9, a9, c9⟩), (ms4.set j (some ⟨t.b1, t.b2, t9, false, t.sl, t.fr, (j : Int)⟩)), ac4.set j none)) _ _ ((by show 4 - (j + 1) < 4 - j; omega)) ⟨hA.sub ((.cons rfl (.cons rfl (.cons rfl (.cons rfl .nil))))), hM, (by omega), (by rw [show ((gs4.set j ⟨Y9, a9, c9⟩).map (·.Y)) = (gs4.map (·.Y)).set j Y9 by rw [List.map_set]]; exact hgi8), (by rw [List.length_set]; exact hgl4), (by rw [List.length_set]; exact hml4), (fun i x hi hx => by rcases set_cases hx with ⟨e, _⟩ | ⟨_, hx2⟩; exact absurd e (by omega); exact hmok4 i x (by omega) hx2), (fun i hi => by have h1 := hac4 i (by omega); rw [List.getElem?_set_ne (by omega), h1, tsOf_set, List.getElem?_set_ne (by omega)]), (by omega), (by omega)⟩
      ·
        refine Ends.exit rfl ?_
        replace hA : St 321 [(5, _), (8, _)] a := hA.sub ((.cons rfl (.cons rfl .nil)))
        refine Ends.seq ?_
        replace hM := hM.front (k := 2) rfl
        replace hM : Mem _ _ [bundle (gs4.map owC), pt q4 #[.pointer (some ⟨m5, 0, none⟩), .int .i64 3, .slice (some ⟨nb7, 0, none⟩) n.toNat n.toNat, .slice (some ⟨ob8, 0, none⟩) 4 4] 128, pt ob8 ((vals (gs4.map owV))) 43, memO m5 c6 l4 s4 op4, pt wb10 #[.slice (some ⟨gH, 0, none⟩) H4.length c12] 93, own 3 1 (.slice (some ⟨gH, 0, none⟩) H4.length c12) H4.length (H4.map (Value.int .i64)), pt b13 ((vals (ms4.map maV))) 98, bundle (ms4.map (maC q4))] _ := hM
        have hje : j = 4 := by omega
        obtain ⟨g0, g1, g2, g3, hgs⟩ := list4 hgl4
        subst hgs
        have hlk4 := hg4.look
        replace hM : Mem _ _ [own 3 1 (.slice g0.a g0.Y.length g0.c) g0.Y.length (g0.Y.map (Value.int .i64)), own 3 1 (.slice g1.a g1.Y.length g1.c) g1.Y.length (g1.Y.map (Value.int .i64)), own 3 1 (.slice g2.a g2.Y.length g2.c) g2.Y.length (g2.Y.map (Value.int .i64)), own 3 1 (.slice g3.a g3.Y.length g3.c) g3.Y.length (g3.Y.map (Value.int .i64)), pt q4 #[.pointer (some ⟨m5, 0, none⟩), .int .i64 3, .slice (some ⟨nb7, 0, none⟩) n.toNat n.toNat, .slice (some ⟨ob8, 0, none⟩) 4 4] 128, pt ob8 #[.slice g0.a g0.Y.length g0.c, .slice g1.a g1.Y.length g1.c, .slice g2.a g2.Y.length g2.c, .slice g3.a g3.Y.length g3.c] 43, memO m5 c6 l4 s4 op4, pt wb10 #[.slice (some ⟨gH, 0, none⟩) H4.length c12] 93, own 3 1 (.slice (some ⟨gH, 0, none⟩) H4.length c12) H4.length (H4.map (Value.int .i64)), pt b13 ((vals (ms4.map maV))) 98, bundle (ms4.map (maC q4))] _ := hM.unpack
        refine Ends.region ?_
        refine S.val hA (R.move rfl) rfl ?_; clear hA a; intro a hA
        refine S.val hA (R.move rfl) rfl ?_; clear hA a; intro a hA
        replace hM := hM.front (k := 5) rfl
        replace hM := hM.front (k := 5) rfl
        replace hM : Mem _ _ [pt q4 #[.pointer (some ⟨m5, 0, none⟩), .int .i64 3, .slice (some ⟨nb7, 0, none⟩) n.toNat n.toNat, .slice (some ⟨ob8, 0, none⟩) 4 4] 128, pt ob8 #[.slice g0.a g0.Y.length g0.c, .slice g1.a g1.Y.length g1.c, .slice g2.a g2.Y.length g2.c, .slice g3.a g3.Y.length g3.c] 43, own 3 1 (.slice g0.a g0.Y.length g0.c) g0.Y.length (g0.Y.map (Value.int .i64)), own 3 1 (.slice g1.a g1.Y.length g1.c) g1.Y.length (g1.Y.map (Value.int .i64)), own 3 1 (.slice g2.a g2.Y.length g2.c) g2.Y.length (g2.Y.map (Value.int .i64)), own 3 1 (.slice g3.a g3.Y.length g3.c) g3.Y.length (g3.Y.map (Value.int .i64)), memO m5 c6 l4 s4 op4, pt wb10 #[.slice (some ⟨gH, 0, none⟩) H4.length c12] 93, own 3 1 (.slice (some ⟨gH, 0, none⟩) H4.length c12) H4.length (H4.map (Value.int .i64)), pt b13 ((vals (ms4.map maV))) 98, bundle (ms4.map (maC q4))] _ := hM
        refine S.call hA (R.callF Try.func52 rfl rfl rfl) rfl (pown_ok q4 m5 nb7 n.toNat ob8 4 3 0 [.slice g0.a g0.Y.length g0.c, .slice g1.a g1.Y.length g1.c, .slice g2.a g2.Y.length g2.c, .slice g3.a g3.Y.length g3.c] g0.a g0.Y g0.c (by decide) rfl (by have := hg4.own g0.Y (by simp); omega) _ (hM.hereN 3)) ?_; clear hA a
        rintro e w58 ⟨a84, c85, rfl, hn⟩
        replace hM : Mem _ _ [own 3 1 (.slice a84 g0.Y.length c85) g0.Y.length (g0.Y.map (Value.int .i64)), pt q4 #[.pointer (some ⟨m5, 0, none⟩), .int .i64 3, .slice (some ⟨nb7, 0, none⟩) n.toNat n.toNat, .slice (some ⟨ob8, 0, none⟩) 4 4] 128, pt ob8 #[.slice g0.a g0.Y.length g0.c, .slice g1.a g1.Y.length g1.c, .slice g2.a g2.Y.length g2.c, .slice g3.a g3.Y.length g3.c] 43, own 3 1 (.slice g0.a g0.Y.length g0.c) g0.Y.length (g0.Y.map (Value.int .i64)), own 3 1 (.slice g1.a g1.Y.length g1.c) g1.Y.length (g1.Y.map (Value.int .i64)), own 3 1 (.slice g2.a g2.Y.length g2.c) g2.Y.length (g2.Y.map (Value.int .i64)), own 3 1 (.slice g3.a g3.Y.length g3.c) g3.Y.length (g3.Y.map (Value.int .i64)), memO m5 c6 l4 s4 op4, pt wb10 #[.slice (some ⟨gH, 0, none⟩) H4.length c12] 93, own 3 1 (.slice (some ⟨gH, 0, none⟩) H4.length c12) H4.length (H4.map (Value.int .i64)), pt b13 ((vals (ms4.map maV))) 98, bundle (ms4.map (maC q4))] _ := hM.callL 3 hn; clear hn
        refine ⟨.slice a84 g0.Y.length c85, rfl, fun a hA => ?_⟩
        refine S.val hA (R.move rfl) rfl ?_; clear hA a; intro a hA
        replace hM := hM.front (k := 4) rfl
        replace hM := hM.front (k := 3) rfl
        replace hM := hM.front (k := 3) rfl
        replace hM : Mem _ _ [pt q4 #[.pointer (some ⟨m5, 0, none⟩), .int .i64 3, .slice (some ⟨nb7, 0, none⟩) n.toNat n.toNat, .slice (some ⟨ob8, 0, none⟩) 4 4] 128, pt ob8 #[.slice g0.a g0.Y.length g0.c, .slice g1.a g1.Y.length g1.c, .slice g2.a g2.Y.length g2.c, .slice g3.a g3.Y.length g3.c] 43, own 3 1 (.slice g1.a g1.Y.length g1.c) g1.Y.length (g1.Y.map (Value.int .i64)), own 3 1 (.slice a84 g0.Y.length c85) g0.Y.length (g0.Y.map (Value.int .i64)), own 3 1 (.slice g0.a g0.Y.length g0.c) g0.Y.length (g0.Y.map (Value.int .i64)), own 3 1 (.slice g2.a g2.Y.length g2.c) g2.Y.length (g2.Y.map (Value.int .i64)), own 3 1 (.slice g3.a g3.Y.length g3.c) g3.Y.length (g3.Y.map (Value.int .i64)), memO m5 c6 l4 s4 op4, pt wb10 #[.slice (some ⟨gH, 0, none⟩) H4.length c12] 93, own 3 1 (.slice (some ⟨gH, 0, none⟩) H4.length c12) H4.length (H4.map (Value.int .i64)), pt b13 ((vals (ms4.map maV))) 98, bundle (ms4.map (maC q4))] _ := hM
        refine S.call hA (R.callF Try.func52 rfl rfl rfl) rfl (pown_ok q4 m5 nb7 n.toNat ob8 4 3 1 [.slice g0.a g0.Y.length g0.c, .slice g1.a g1.Y.length g1.c, .slice g2.a g2.Y.length g2.c, .slice g3.a g3.Y.length g3.c] g1.a g1.Y g1.c (by decide) rfl (by have := hg4.own g1.Y (by simp); omega) _ (hM.hereN 3)) ?_; clear hA a
        rintro e w59 ⟨a86, c87, rfl, hn⟩
        replace hM : Mem _ _ [own 3 1 (.slice a86 g1.Y.length c87) g1.Y.length (g1.Y.map (Value.int .i64)), pt q4 #[.pointer (some ⟨m5, 0, none⟩), .int .i64 3, .slice (some ⟨nb7, 0, none⟩) n.toNat n.toNat, .slice (some ⟨ob8, 0, none⟩) 4 4] 128, pt ob8 #[.slice g0.a g0.Y.length g0.c, .slice g1.a g1.Y.length g1.c, .slice g2.a g2.Y.length g2.c, .slice g3.a g3.Y.length g3.c] 43, own 3 1 (.slice g1.a g1.Y.length g1.c) g1.Y.length (g1.Y.map (Value.int .i64)), own 3 1 (.slice a84 g0.Y.length c85) g0.Y.length (g0.Y.map (Value.int .i64)), own 3 1 (.slice g0.a g0.Y.length g0.c) g0.Y.length (g0.Y.map (Value.int .i64)), own 3 1 (.slice g2.a g2.Y.length g2.c) g2.Y.length (g2.Y.map (Value.int .i64)), own 3 1 (.slice g3.a g3.Y.length g3.c) g3.Y.length (g3.Y.map (Value.int .i64)), memO m5 c6 l4 s4 op4, pt wb10 #[.slice (some ⟨gH, 0, none⟩) H4.length c12] 93, own 3 1 (.slice (some ⟨gH, 0, none⟩) H4.length c12) H4.length (H4.map (Value.int .i64)), pt b13 ((vals (ms4.map maV))) 98, bundle (ms4.map (maC q4))] _ := hM.callL 3 hn; clear hn
        refine ⟨.slice a86 g1.Y.length c87, rfl, fun a hA => ?_⟩
        refine S.val hA (R.move rfl) rfl ?_; clear hA a; intro a hA
        replace hM := hM.front (k := 6) rfl
        replace hM := hM.front (k := 3) rfl
        replace hM := hM.front (k := 3) rfl
        replace hM : Mem _ _ [pt q4 #[.pointer (some ⟨m5, 0, none⟩), .int .i64 3, .slice (some ⟨nb7, 0, none⟩) n.toNat n.toNat, .slice (some ⟨ob8, 0, none⟩) 4 4] 128, pt ob8 #[.slice g0.a g0.Y.length g0.c, .slice g1.a g1.Y.length g1.c, .slice g2.a g2.Y.length g2.c, .slice g3.a g3.Y.length g3.c] 43, own 3 1 (.slice g2.a g2.Y.length g2.c) g2.Y.length (g2.Y.map (Value.int .i64)), own 3 1 (.slice a86 g1.Y.length c87) g1.Y.length (g1.Y.map (Value.int .i64)), own 3 1 (.slice g1.a g1.Y.length g1.c) g1.Y.length (g1.Y.map (Value.int .i64)), own 3 1 (.slice a84 g0.Y.length c85) g0.Y.length (g0.Y.map (Value.int .i64)), own 3 1 (.slice g0.a g0.Y.length g0.c) g0.Y.length (g0.Y.map (Value.int .i64)), own 3 1 (.slice g3.a g3.Y.length g3.c) g3.Y.length (g3.Y.map (Value.int .i64)), memO m5 c6 l4 s4 op4, pt wb10 #[.slice (some ⟨gH, 0, none⟩) H4.length c12] 93, own 3 1 (.slice (some ⟨gH, 0, none⟩) H4.length c12) H4.length (H4.map (Value.int .i64)), pt b13 ((vals (ms4.map maV))) 98, bundle (ms4.map (maC q4))] _ := hM
        refine S.call hA (R.callF Try.func52 rfl rfl rfl) rfl (pown_ok q4 m5 nb7 n.toNat ob8 4 3 2 [.slice g0.a g0.Y.length g0.c, .slice g1.a g1.Y.length g1.c, .slice g2.a g2.Y.length g2.c, .slice g3.a g3.Y.length g3.c] g2.a g2.Y g2.c (by decide) rfl (by have := hg4.own g2.Y (by simp); omega) _ (hM.hereN 3)) ?_; clear hA a
        rintro e w60 ⟨a88, c89, rfl, hn⟩
        replace hM : Mem _ _ [own 3 1 (.slice a88 g2.Y.length c89) g2.Y.length (g2.Y.map (Value.int .i64)), pt q4 #[.pointer (some ⟨m5, 0, none⟩), .int .i64 3, .slice (some ⟨nb7, 0, none⟩) n.toNat n.toNat, .slice (some ⟨ob8, 0, none⟩) 4 4] 128, pt ob8 #[.slice g0.a g0.Y.length g0.c, .slice g1.a g1.Y.length g1.c, .slice g2.a g2.Y.length g2.c, .slice g3.a g3.Y.length g3.c] 43, own 3 1 (.slice g2.a g2.Y.length g2.c) g2.Y.length (g2.Y.map (Value.int .i64)), own 3 1 (.slice a86 g1.Y.length c87) g1.Y.length (g1.Y.map (Value.int .i64)), own 3 1 (.slice g1.a g1.Y.length g1.c) g1.Y.length (g1.Y.map (Value.int .i64)), own 3 1 (.slice a84 g0.Y.length c85) g0.Y.length (g0.Y.map (Value.int .i64)), own 3 1 (.slice g0.a g0.Y.length g0.c) g0.Y.length (g0.Y.map (Value.int .i64)), own 3 1 (.slice g3.a g3.Y.length g3.c) g3.Y.length (g3.Y.map (Value.int .i64)), memO m5 c6 l4 s4 op4, pt wb10 #[.slice (some ⟨gH, 0, none⟩) H4.length c12] 93, own 3 1 (.slice (some ⟨gH, 0, none⟩) H4.length c12) H4.length (H4.map (Value.int .i64)), pt b13 ((vals (ms4.map maV))) 98, bundle (ms4.map (maC q4))] _ := hM.callL 3 hn; clear hn
        refine ⟨.slice a88 g2.Y.length c89, rfl, fun a hA => ?_⟩
        refine S.val hA (R.move rfl) rfl ?_; clear hA a; intro a hA
        replace hM := hM.front (k := 8) rfl
        replace hM := hM.front (k := 3) rfl
        replace hM := hM.front (k := 3) rfl
        replace hM : Mem _ _ [pt q4 #[.pointer (some ⟨m5, 0, none⟩), .int .i64 3, .slice (some ⟨nb7, 0, none⟩) n.toNat n.toNat, .slice (some ⟨ob8, 0, none⟩) 4 4] 128, pt ob8 #[.slice g0.a g0.Y.length g0.c, .slice g1.a g1.Y.length g1.c, .slice g2.a g2.Y.length g2.c, .slice g3.a g3.Y.length g3.c] 43, own 3 1 (.slice g3.a g3.Y.length g3.c) g3.Y.length (g3.Y.map (Value.int .i64)), own 3 1 (.slice a88 g2.Y.length c89) g2.Y.length (g2.Y.map (Value.int .i64)), own 3 1 (.slice g2.a g2.Y.length g2.c) g2.Y.length (g2.Y.map (Value.int .i64)), own 3 1 (.slice a86 g1.Y.length c87) g1.Y.length (g1.Y.map (Value.int .i64)), own 3 1 (.slice g1.a g1.Y.length g1.c) g1.Y.length (g1.Y.map (Value.int .i64)), own 3 1 (.slice a84 g0.Y.length c85) g0.Y.length (g0.Y.map (Value.int .i64)), own 3 1 (.slice g0.a g0.Y.length g0.c) g0.Y.length (g0.Y.map (Value.int .i64)), memO m5 c6 l4 s4 op4, pt wb10 #[.slice (some ⟨gH, 0, none⟩) H4.length c12] 93, own 3 1 (.slice (some ⟨gH, 0, none⟩) H4.length c12) H4.length (H4.map (Value.int .i64)), pt b13 ((vals (ms4.map maV))) 98, bundle (ms4.map (maC q4))] _ := hM
        refine S.call hA (R.callF Try.func52 rfl rfl rfl) rfl (pown_ok q4 m5 nb7 n.toNat ob8 4 3 3 [.slice g0.a g0.Y.length g0.c, .slice g1.a g1.Y.length g1.c, .slice g2.a g2.Y.length g2.c, .slice g3.a g3.Y.length g3.c] g3.a g3.Y g3.c (by decide) rfl (by have := hg4.own g3.Y (by simp); omega) _ (hM.hereN 3)) ?_; clear hA a
        rintro e w61 ⟨a90, c91, rfl, hn⟩
        replace hM : Mem _ _ [own 3 1 (.slice a90 g3.Y.length c91) g3.Y.length (g3.Y.map (Value.int .i64)), pt q4 #[.pointer (some ⟨m5, 0, none⟩), .int .i64 3, .slice (some ⟨nb7, 0, none⟩) n.toNat n.toNat, .slice (some ⟨ob8, 0, none⟩) 4 4] 128, pt ob8 #[.slice g0.a g0.Y.length g0.c, .slice g1.a g1.Y.length g1.c, .slice g2.a g2.Y.length g2.c, .slice g3.a g3.Y.length g3.c] 43, own 3 1 (.slice g3.a g3.Y.length g3.c) g3.Y.length (g3.Y.map (Value.int .i64)), own 3 1 (.slice a88 g2.Y.length c89) g2.Y.length (g2.Y.map (Value.int .i64)), own 3 1 (.slice g2.a g2.Y.length g2.c) g2.Y.length (g2.Y.map (Value.int .i64)), own 3 1 (.slice a86 g1.Y.length c87) g1.Y.length (g1.Y.map (Value.int .i64)), own 3 1 (.slice g1.a g1.Y.length g1.c) g1.Y.length (g1.Y.map (Value.int .i64)), own 3 1 (.slice a84 g0.Y.length c85) g0.Y.length (g0.Y.map (Value.int .i64)), own 3 1 (.slice g0.a g0.Y.length g0.c) g0.Y.length (g0.Y.map (Value.int .i64)), memO m5 c6 l4 s4 op4, pt wb10 #[.slice (some ⟨gH, 0, none⟩) H4.length c12] 93, own 3 1 (.slice (some ⟨gH, 0, none⟩) H4.length c12) H4.length (H4.map (Value.int .i64)), pt b13 ((vals (ms4.map maV))) 98, bundle (ms4.map (maC q4))] _ := hM.callL 3 hn; clear hn
        refine ⟨.slice a90 g3.Y.length c91, rfl, fun a hA => ?_⟩
        refine S.val hA (R.move rfl) rfl ?_; clear hA a; intro a hA
        replace hM := hM.front (k := 10) rfl
        replace hM := hM.front (k := 2) rfl
        replace hM : Mem _ _ [pt q4 #[.pointer (some ⟨m5, 0, none⟩), .int .i64 3, .slice (some ⟨nb7, 0, none⟩) n.toNat n.toNat, .slice (some ⟨ob8, 0, none⟩) 4 4] 128, memO m5 c6 l4 s4 op4, own 3 1 (.slice a90 g3.Y.length c91) g3.Y.length (g3.Y.map (Value.int .i64)), pt ob8 #[.slice g0.a g0.Y.length g0.c, .slice g1.a g1.Y.length g1.c, .slice g2.a g2.Y.length g2.c, .slice g3.a g3.Y.length g3.c] 43, own 3 1 (.slice g3.a g3.Y.length g3.c) g3.Y.length (g3.Y.map (Value.int .i64)), own 3 1 (.slice a88 g2.Y.length c89) g2.Y.length (g2.Y.map (Value.int .i64)), own 3 1 (.slice g2.a g2.Y.length g2.c) g2.Y.length (g2.Y.map (Value.int .i64)), own 3 1 (.slice a86 g1.Y.length c87) g1.Y.length (g1.Y.map (Value.int .i64)), own 3 1 (.slice g1.a g1.Y.length g1.c) g1.Y.length (g1.Y.map (Value.int .i64)), own 3 1 (.slice a84 g0.Y.length c85) g0.Y.length (g0.Y.map (Value.int .i64)), own 3 1 (.slice g0.a g0.Y.length g0.c) g0.Y.length (g0.Y.map (Value.int .i64)), pt wb10 #[.slice (some ⟨gH, 0, none⟩) H4.length c12] 93, own 3 1 (.slice (some ⟨gH, 0, none⟩) H4.length c12) H4.length (H4.map (Value.int .i64)), pt b13 ((vals (ms4.map maV))) 98, bundle (ms4.map (maC q4))] _ := hM
        refine S.call hA (R.callF Try.func53 rfl rfl rfl) rfl (pshared_any q4 m5 c6 nb7 n.toNat ob8 4 3 l4 s4 op4 hm5c6 xs4 (by have := hlk4.mi; unfold MI at this; omega) (by omega) (by have := hlk4.mi.2.2.2.2.2.1; exact ⟨this.1, this.2.1⟩) hlk4.chn hlk4.len (fun x hx => by have := hlk4.rng x hx; omega) _ (hM.hereN 2)) ?_; clear hA a
        rintro e w62 ⟨a92, c93, rfl, hn⟩
        replace hM : Mem _ _ [own 3 1 (.slice a92 xs4.length c93) xs4.length (xs4.map (Value.int .i64)), pt q4 #[.pointer (some ⟨m5, 0, none⟩), .int .i64 3, .slice (some ⟨nb7, 0, none⟩) n.toNat n.toNat, .slice (some ⟨ob8, 0, none⟩) 4 4] 128, memO m5 c6 l4 s4 op4, own 3 1 (.slice a90 g3.Y.length c91) g3.Y.length (g3.Y.map (Value.int .i64)), pt ob8 #[.slice g0.a g0.Y.length g0.c, .slice g1.a g1.Y.length g1.c, .slice g2.a g2.Y.length g2.c, .slice g3.a g3.Y.length g3.c] 43, own 3 1 (.slice g3.a g3.Y.length g3.c) g3.Y.length (g3.Y.map (Value.int .i64)), own 3 1 (.slice a88 g2.Y.length c89) g2.Y.length (g2.Y.map (Value.int .i64)), own 3 1 (.slice g2.a g2.Y.length g2.c) g2.Y.length (g2.Y.map (Value.int .i64)), own 3 1 (.slice a86 g1.Y.length c87) g1.Y.length (g1.Y.map (Value.int .i64)), own 3 1 (.slice g1.a g1.Y.length g1.c) g1.Y.length (g1.Y.map (Value.int .i64)), own 3 1 (.slice a84 g0.Y.length c85) g0.Y.length (g0.Y.map (Value.int .i64)), own 3 1 (.slice g0.a g0.Y.length g0.c) g0.Y.length (g0.Y.map (Value.int .i64)), pt wb10 #[.slice (some ⟨gH, 0, none⟩) H4.length c12] 93, own 3 1 (.slice (some ⟨gH, 0, none⟩) H4.length c12) H4.length (H4.map (Value.int .i64)), pt b13 ((vals (ms4.map maV))) 98, bundle (ms4.map (maC q4))] _ := hM.callL 2 hn; clear hn
        refine ⟨.slice a92 xs4.length c93, rfl, fun a hA => ?_⟩
        refine S.buildSl (cells := #[.slice a84 g0.Y.length c85, .slice a86 g1.Y.length c87, .slice a88 g2.Y.length c89, .slice a90 g3.Y.length c91, .slice a92 xs4.length c93]) hA hM Try.underlying95 info43 rfl rfl rfl rfl (by kernel_rfl) rfl ?_; clear hA hM a; intro b94 w63 hb95 hM a hA
        replace hM : Mem _ _ [pt b94 #[.slice a84 g0.Y.length c85, .slice a86 g1.Y.length c87, .slice a88 g2.Y.length c89, .slice a90 g3.Y.length c91, .slice a92 xs4.length c93] 43, own 3 1 (.slice a92 xs4.length c93) xs4.length (xs4.map (Value.int .i64)), pt q4 #[.pointer (some ⟨m5, 0, none⟩), .int .i64 3, .slice (some ⟨nb7, 0, none⟩) n.toNat n.toNat, .slice (some ⟨ob8, 0, none⟩) 4 4] 128, memO m5 c6 l4 s4 op4, own 3 1 (.slice a90 g3.Y.length c91) g3.Y.length (g3.Y.map (Value.int .i64)), pt ob8 #[.slice g0.a g0.Y.length g0.c, .slice g1.a g1.Y.length g1.c, .slice g2.a g2.Y.length g2.c, .slice g3.a g3.Y.length g3.c] 43, own 3 1 (.slice g3.a g3.Y.length g3.c) g3.Y.length (g3.Y.map (Value.int .i64)), own 3 1 (.slice a88 g2.Y.length c89) g2.Y.length (g2.Y.map (Value.int .i64)), own 3 1 (.slice g2.a g2.Y.length g2.c) g2.Y.length (g2.Y.map (Value.int .i64)), own 3 1 (.slice a86 g1.Y.length c87) g1.Y.length (g1.Y.map (Value.int .i64)), own 3 1 (.slice g1.a g1.Y.length g1.c) g1.Y.length (g1.Y.map (Value.int .i64)), own 3 1 (.slice a84 g0.Y.length c85) g0.Y.length (g0.Y.map (Value.int .i64)), own 3 1 (.slice g0.a g0.Y.length g0.c) g0.Y.length (g0.Y.map (Value.int .i64)), pt wb10 #[.slice (some ⟨gH, 0, none⟩) H4.length c12] 93, own 3 1 (.slice (some ⟨gH, 0, none⟩) H4.length c12) H4.length (H4.map (Value.int .i64)), pt b13 ((vals (ms4.map maV))) 98, bundle (ms4.map (maC q4))] _ := hM
        refine S.call hA (R.callF Try.func60 rfl rfl rfl) rfl (once18_5 wb10 b94 n (by omega) (some ⟨gH, 0, none⟩) H4 c12 a84 g0.Y c85 a86 g1.Y c87 a88 g2.Y c89 a90 g3.Y c91 a92 xs4 c93 (by have := hg4.held; simpa using this) _ (hM.block (k := 13) rfl) (hM.block (k := 0) rfl) (hM.intSl (k := 14) rfl) (hM.intSl (k := 11) rfl) (hM.intSl (k := 9) rfl) (hM.intSl (k := 7) rfl) (hM.intSl (k := 4) rfl) (hM.intSl (k := 1) rfl)) ?_; clear hA a
        rintro e w64 ⟨rfl, hb⟩
        replace hM := hM.callB hb; clear hb
        refine ⟨.bool true, rfl, fun a hA => ?_⟩
        refine S.val hA (R.assign rfl) rfl ?_; clear hA a; intro a hA
        refine S.done ?_
        replace hA : St 321 [(4, _)] a := hA.sub ((.cons rfl .nil))
        refine Ends.ret1 Try.func12 Try.results12 hA rfl ?_
        exact ⟨rfl, hM.nilL.below⟩
  ·
    refine Ends.region ?_
    refine S.val hA (R.move rfl) rfl ?_; clear hA a; intro a hA
    refine S.val hA (R.move rfl) rfl ?_; clear hA a; intro a hA
    refine S.val hA (R.lenS Try.underlying96 rfl rfl) rfl ?_; clear hA a; intro a hA
    refine S.val hA (R.lss rfl rfl) rfl ?_; clear hA a; intro a hA
    refine S.val hA (R.move rfl) rfl ?_; clear hA a; intro a hA
    refine hA.split (d := 47) rfl ?_ ?_
    · clear hA; intro hg96 hA
      refine S.valg (dj := 47) hA (by kernel_rfl) rfl (R.move rfl) rfl ?_; clear hA a; intro a hA
      refine S.valg (dj := 47) hA (by kernel_rfl) rfl (R.lss rfl rfl) rfl ?_; clear hA a; intro a hA
      refine S.val hA (R.pickT rfl rfl) rfl ?_; clear hA a; intro a hA
      refine S.done ?_
      replace hA : St 321 [(0, _), (1, _), (5, _), (6, _), (8, _), (9, _), (10, _), (11, _), (50, _)] a := hA.sub ((.cons rfl (.cons rfl (.cons rfl (.cons rfl (.cons rfl (.cons rfl (.cons rfl (.cons rfl (.cons rfl .nil))))))))))
      exact hJ _ _ ⟨hA.sub (.cons rfl (.cons rfl (.cons rfl (.cons rfl (.cons rfl (.cons rfl (.cons rfl (.cons rfl (.cons (by first | rfl | exact congrArg (fun b => some (Value.bool b)) (by first | (simp; done) | simp [hg96])) .nil))))))))), hM⟩
    · clear hA; intro hg96 hA
      refine S.no (dj := 47) hA (by kernel_rfl) rfl rfl rfl ?_; clear hA a; intro a hA
      refine S.no (dj := 47) hA (by kernel_rfl) rfl rfl rfl ?_; clear hA a; intro a hA
      refine S.val hA (R.pickF rfl rfl) rfl ?_; clear hA a; intro a hA
      refine S.done ?_
      replace hA : St 321 [(0, _), (1, _), (5, _), (6, _), (8, _), (9, _), (10, _), (11, _), (50, _)] a := hA.sub ((.cons rfl (.cons rfl (.cons rfl (.cons rfl (.cons rfl (.cons rfl (.cons rfl (.cons rfl (.cons rfl .nil))))))))))
      exact hJ _ _ ⟨hA.sub (.cons rfl (.cons rfl (.cons rfl (.cons rfl (.cons rfl (.cons rfl (.cons rfl (.cons rfl (.cons (by first | rfl | exact congrArg (fun b => some (Value.bool b)) (by first | (simp; done) | simp [hg96])) .nil))))))))), hM⟩
theorem poolMixed_any (f : Int) (v : Value) (nr : Nat) (l : List Int) (w : World) (_hf : (Lit.int .i64 f).wf = true) (hrow : RowSl w v 3 nr l) (_hl : ∀ x ∈ l, (Lit.int .i64 x).wf = true) :
    Calls Try.prog 12 #[.int .i64 f, v] w fun e w' => e = .returned (.bool true) ∧ Below w.heap.size w w' := by
  obtain ⟨ad, cap, rfl⟩ := hrow.form
  exact poolMixed_w f ad nr cap l w hrow
end Go.Proofs.Ytjjbognomeplbaa
