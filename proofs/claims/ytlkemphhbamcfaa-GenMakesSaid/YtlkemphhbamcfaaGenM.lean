/-
  gen.Make and kurganref07.Make make the same problem; the law GenMakes.
-/
import Derived.Test.YtlkemphhbamcfaaGenW
import Derived.Test.YtlkemphhbamcfaaInsW
namespace Go.Proofs.Ytlkemphhbamcfaa
open Go.RowKit
theorem Mem.ownOr {w0 w : World} {F : Nat → Prop} {L : List Ck} {e : TypeId} {X : List Int} {a : Option Addr} {c : Nat} (h : Mem w0 F (own e 1 (.slice a X.length c) X.length (X.map (Value.int .i64)) :: L) w) : Mem w0 F (orC e ⟨X, a, c⟩ :: L) w := h
theorem gmk_kind {kd n m s : Int} {G : Ins} {er : Int} (hG : gmk kd n m s = (G, er)) (h : ¬ (1 ≤ kd ∧ kd ≤ 3)) : G = i0 ∧ er = 14 := by
  unfold gmk at hG; rw [if_pos h] at hG; cases hG; exact ⟨rfl, rfl⟩
theorem gmk_arg {kd n m s : Int} {G : Ins} {er : Int} (hG : gmk kd n m s = (G, er)) (h : 1 ≤ kd ∧ kd ≤ 3) (h2 : n < 1 ∨ m < 0 ∨ 2147483647 < m) : G = i0 ∧ er = 1 := by
  unfold gmk at hG; rw [if_neg (by omega), if_pos h2] at hG; cases hG; exact ⟨rfl, rfl⟩
theorem gmk_big {kd n m s : Int} {G : Ins} {er : Int} (hG : gmk kd n m s = (G, er)) (h : 1 ≤ kd ∧ kd ≤ 3) (h2 : ¬ (n < 1 ∨ m < 0 ∨ 2147483647 < m)) (h3 : n > 64 ∨ (1 < kd ∧ n > 24)) : G = i0 ∧ er = 5 := by
  unfold gmk at hG; rw [if_neg (by omega), if_neg h2, if_pos h3] at hG; cases hG; exact ⟨rfl, rfl⟩
theorem gmk_sack {n m s : Int} {G : Ins} {er : Int} (hG : gmk 1 n m s = (G, er)) (h2 : ¬ (n < 1 ∨ m < 0 ∨ 2147483647 < m)) (h3 : ¬ (n > 64)) : G = gK n m s ∧ er = 0 := by
  unfold gmk at hG; rw [if_neg (by omega), if_neg h2, if_neg (by omega), if_pos rfl] at hG; cases hG; exact ⟨rfl, rfl⟩
theorem gmk_rows {kd n m s : Int} {G : Ins} {er : Int} (hG : gmk kd n m s = (G, er)) (h : kd = 2 ∨ kd = 3) (h2 : ¬ (n < 1 ∨ m < 0 ∨ 2147483647 < m)) (h3 : ¬ (n > 24)) : G = gR kd n m s ∧ er = 0 := by
  unfold gmk at hG; rw [if_neg (by omega), if_neg h2, if_neg (by omega), if_neg (by omega)] at hG; cases hG; exact ⟨rfl, rfl⟩
set_option maxRecDepth 100000 in
set_option maxHeartbeats 400000 in
theorem gMake (kd n m s : Int) (G : Ins) (er : Int) (hG : gmk kd n m s = (G, er)) (w : World) :
    Calls Try.prog 36 #[.int .i64 kd, .int .i64 n, .int .i64 m, .int .u64 s] w fun e w' => ∃ aw cw av cv ac cc, e = .returned (.tuple #[insG G aw cw av cv ac cc, .int .i64 er]) ∧ insR w' G aw cw av cv ac cc ∧ Below w.heap.size w w' := by
  have hbs := Below.refl (B := w.heap.size) w
  have hM := Mem.start w
  refine Calls.of_ends (vs := [.int .i64 kd, .int .i64 n, .int .i64 m, .int .u64 s]) Try.func36 rfl Try.ntmps36 rfl ?_
  intro a hA
  replace hA : St 49 [(0, _), (1, _), (2, _), (3, _)] a := hA
  refine Ends.seq ?_
  refine Ends.region ?_
  refine S.alloc hA hM info56 rfl rfl ?_; clear hA hM a; intro b1 w1 hb2 hM a hA
  replace hM : Mem _ _ [pt b1 #[.int .i64 0, .int .i64 0, .int .i64 0, .slice none 0 0, .slice none 0 0, .slice none 0 0] 56] _ := hM
  refine S.val hA (R.assign rfl) rfl ?_; clear hA a; intro a hA
  refine S.done ?_
  replace hA : St 49 [(0, _), (1, _), (2, _), (3, _), (8, _)] a := hA.sub ((.cons rfl (.cons rfl (.cons rfl (.cons rfl (.cons rfl .nil))))))
  refine Ends.seq ?_
  refine Ends.region ?_
  refine S.val hA (R.assign rfl) rfl ?_; clear hA a; intro a hA
  refine S.done ?_
  replace hA : St 49 [(0, _), (1, _), (2, _), (3, _), (8, _), (10, _)] a := hA.sub ((.cons rfl (.cons rfl (.cons rfl (.cons rfl (.cons rfl (.cons rfl .nil)))))))
  refine Ends.seq ?_
  refine Ends.seq ?_
  refine Ends.region ?_
  refine S.val hA (R.move rfl) rfl ?_; clear hA a; intro a hA
  refine S.done ?_
  replace hA : St 49 [(0, _), (1, _), (2, _), (3, _), (8, _), (10, _), (12, _)] a := hA.sub ((.cons rfl (.cons rfl (.cons rfl (.cons rfl (.cons rfl (.cons rfl (.cons rfl .nil))))))))
  refine Ends.block ?_
  refine Ends.seq ?_
  refine Ends.region ?_
  refine S.val hA (R.eql rfl rfl) rfl ?_; clear hA a; intro a hA
  refine S.val hA (R.assign rfl) rfl ?_; clear hA a; intro a hA
  refine S.done ?_
  replace hA : St 49 [(0, _), (1, _), (2, _), (3, _), (8, _), (10, _), (12, _), (14, _)] a := hA.sub ((.cons rfl (.cons rfl (.cons rfl (.cons rfl (.cons rfl (.cons rfl (.cons rfl (.cons rfl .nil)))))))))
  refine Ends.ite hA rfl (fun hc3 => ?_) (fun hc3 => ?_)
  ·
    rw [decide_eq_true hc3] at hA
    refine Ends.region ?_
    refine S.val hA (R.assign rfl) rfl ?_; clear hA a; intro a hA
    refine S.done ?_
    replace hA : St 49 [(0, _), (1, _), (2, _), (3, _), (8, _), (10, _)] a := hA.sub ((.cons rfl (.cons rfl (.cons rfl (.cons rfl (.cons rfl (.cons rfl .nil)))))))
    refine Ends.inBlock ?_
    refine Ends.seq ?_
    refine Ends.block ?_
    refine Ends.seq ?_
    refine Ends.cut (fun (a : Act) (wv : World) => St 49 [(0, .int .i64 kd), (1, .int .i64 n), (2, .int .i64 m), (3, .int .u64 s), (8, .pointer (some ⟨b1, 0, none⟩)), (10, .int .i64 64), (19, .bool (decide (((n < 1 ∨ m < 0) ∨ 2147483647 < m))))] a ∧ Mem w nof [pt b1 #[.int .i64 0, .int .i64 0, .int .i64 0, .slice none 0 0, .slice none 0 0, .slice none 0 0] 56] wv) ?_ (fun k2 hJ => ?_)
    · clear hA hM a; rintro a w2 ⟨hA, hM⟩
      refine Ends.ite hA rfl (fun hc4 => ?_) (fun hc4 => ?_)
      ·
        rw [decide_eq_true hc4] at hA
        refine Ends.seq ?_
        refine Ends.region ?_
        refine S.val hA (R.build (cells := #[.int .i64 0, .int .i64 0, .int .i64 0, .slice none 0 0, .slice none 0 0, .slice none 0 0]) rfl (by kernel_rfl)) rfl ?_; clear hA a; intro a hA
        refine S.storeA (k := 0) hA hM sz56 rfl rfl rfl rfl rfl rfl ?_; clear hM
        intro w3 hM
        replace hM : Mem _ _ [pt b1 #[.int .i64 0, .int .i64 0, .int .i64 0, .slice none 0 0, .slice none 0 0, .slice none 0 0] 56] _ := hM
        refine S.val hA (R.assign rfl) rfl ?_; clear hA a; intro a hA
        refine S.done ?_
        replace hA : St 49 [(0, _), (1, _), (2, _), (3, _), (8, _), (9, _)] a := hA.sub ((.cons rfl (.cons rfl (.cons rfl (.cons rfl (.cons rfl (.cons rfl .nil)))))))
        refine Ends.retC2 (k := 0) Try.func36 Try.results36 hA hM rfl rfl rfl sz56 rfl ?_
        obtain ⟨rfl, rfl⟩ := gmk_arg hG (by omega) (by omega)
        exact ⟨none, 0, none, 0, none, 0, rfl, ⟨IntSl.nil _, IntSl.nil _, RowsV.nil _⟩, Mem.trans0 hbs hM.nilL⟩
      ·
        rw [decide_eq_false hc4] at hA
        refine Ends.seq ?_
        refine Ends.region ?_
        refine S.val hA (R.move rfl) rfl ?_; clear hA a; intro a hA
        refine S.val hA (R.move rfl) rfl ?_; clear hA a; intro a hA
        refine S.val hA (R.gtr rfl rfl) rfl ?_; clear hA a; intro a hA
        refine S.val hA (R.assign rfl) rfl ?_; clear hA a; intro a hA
        refine S.done ?_
        replace hA : St 49 [(0, _), (1, _), (2, _), (3, _), (8, _), (31, _)] a := hA.sub ((.cons rfl (.cons rfl (.cons rfl (.cons rfl (.cons rfl (.cons rfl .nil)))))))
        refine Ends.ite hA rfl (fun hc5 => ?_) (fun hc5 => ?_)
        ·
          rw [decide_eq_true hc5] at hA
          refine Ends.seq ?_
          refine Ends.region ?_
          refine S.val hA (R.build (cells := #[.int .i64 0, .int .i64 0, .int .i64 0, .slice none 0 0, .slice none 0 0, .slice none 0 0]) rfl (by kernel_rfl)) rfl ?_; clear hA a; intro a hA
          refine S.storeA (k := 0) hA hM sz56 rfl rfl rfl rfl rfl rfl ?_; clear hM
          intro w4 hM
          replace hM : Mem _ _ [pt b1 #[.int .i64 0, .int .i64 0, .int .i64 0, .slice none 0 0, .slice none 0 0, .slice none 0 0] 56] _ := hM
          refine S.val hA (R.assign rfl) rfl ?_; clear hA a; intro a hA
          refine S.done ?_
          replace hA : St 49 [(0, _), (1, _), (2, _), (3, _), (8, _), (9, _)] a := hA.sub ((.cons rfl (.cons rfl (.cons rfl (.cons rfl (.cons rfl (.cons rfl .nil)))))))
          refine Ends.retC2 (k := 0) Try.func36 Try.results36 hA hM rfl rfl rfl sz56 rfl ?_
          obtain ⟨rfl, rfl⟩ := gmk_big hG (by omega) (by omega) (by omega)
          exact ⟨none, 0, none, 0, none, 0, rfl, ⟨IntSl.nil _, IntSl.nil _, RowsV.nil _⟩, Mem.trans0 hbs hM.nilL⟩
        ·
          rw [decide_eq_false hc5] at hA
          refine Ends.skip ?_
          refine Ends.inBlock ?_
          refine Ends.seq ?_
          refine Ends.region ?_
          refine S.val hA (R.move rfl) rfl ?_; clear hA a; intro a hA
          refine S.val hA (R.move rfl) rfl ?_; clear hA a; intro a hA
          refine S.val hA (R.build (cells := #[.int .u64 s, .int .i64 m]) rfl (by kernel_rfl)) rfl ?_; clear hA a; intro a hA
          refine S.box hA hM rfl rfl ?_; clear hA hM a; intro b6 w5 hb7 hM a hA
          replace hM : Mem _ _ [pt b6 #[.int .u64 s, .int .i64 m] 110, pt b1 #[.int .i64 0, .int .i64 0, .int .i64 0, .slice none 0 0, .slice none 0 0, .slice none 0 0] 56] _ := hM
          refine S.val hA (R.assign rfl) rfl ?_; clear hA a; intro a hA
          refine S.done ?_
          replace hA : St 49 [(0, _), (1, _), (8, _), (11, _)] a := hA.sub ((.cons rfl (.cons rfl (.cons rfl (.cons rfl .nil)))))
          refine Ends.seq ?_
          refine Ends.seq ?_
          refine Ends.region ?_
          refine S.val hA (R.move rfl) rfl ?_; clear hA a; intro a hA
          refine S.val hA (R.eql rfl rfl) rfl ?_; clear hA a; intro a hA
          refine S.done ?_
          replace hA : St 49 [(0, _), (1, _), (8, _), (11, _), (41, _)] a := hA.sub ((.cons rfl (.cons rfl (.cons rfl (.cons rfl (.cons rfl .nil))))))
          refine Ends.ite hA rfl (fun hc8 => ?_) (fun hc8 => ?_)
          ·
            rw [decide_eq_true hc8] at hA
            refine Ends.seq ?_
            refine Ends.region ?_
            refine S.val hA (R.move rfl) rfl ?_; clear hA a; intro a hA
            refine S.val hA (R.move rfl) rfl ?_; clear hA a; intro a hA
            refine S.call hA (R.callF Try.func70 rfl rfl rfl) rfl (gknap b6 n s m (by omega) (by omega) _ (hM.hereN 1)) ?_; clear hA a
            rintro e w6 ⟨aw, cw, av, cv, rfl, hn⟩
            replace hM : Mem _ _ [bundle (insL 3 40 (gK n m s) aw cw av cv none 0 []), pt b6 #[.int .u64 (sd s (2 * n.toNat)), .int .i64 m] 110, pt b1 #[.int .i64 0, .int .i64 0, .int .i64 0, .slice none 0 0, .slice none 0 0, .slice none 0 0] 56] _ := hM.callL 1 hn; clear hn
            refine ⟨.agg #[.int .i64 1, .int .i64 n, .int .i64 (min ((nmL s m evn n.toNat).sum / 2) 2147483647), .slice aw ((nmL s m evn n.toNat).length) cw, .slice av ((nmL s m odd1 n.toNat).length) cv, .slice none 0 0], rfl, fun a hA => ?_⟩
            refine S.storeA (k := 2) hA hM sz56 rfl rfl rfl rfl rfl rfl ?_; clear hM
            intro w7 hM
            replace hM : Mem _ _ [bundle (insL 3 40 (gK n m s) aw cw av cv none 0 []), pt b6 #[.int .u64 (sd s (2 * n.toNat)), .int .i64 m] 110, pt b1 #[.int .i64 1, .int .i64 n, .int .i64 (min ((nmL s m evn n.toNat).sum / 2) 2147483647), .slice aw ((nmL s m evn n.toNat).length) cw, .slice av ((nmL s m odd1 n.toNat).length) cv, .slice none 0 0] 56] _ := hM
            refine S.val hA (R.assign rfl) rfl ?_; clear hA a; intro a hA
            refine S.done ?_
            replace hA : St 49 [(0, _), (1, _), (8, _), (9, _), (11, _)] a := hA.sub ((.cons rfl (.cons rfl (.cons rfl (.cons rfl (.cons rfl .nil))))))
            refine Ends.retC2 (k := 2) Try.func36 Try.results36 hA hM rfl rfl rfl sz56 rfl ?_
            have hkd : kd = 1 := by omega
            subst hkd
            obtain ⟨rfl, rfl⟩ := gmk_sack hG (by omega) (by omega)
            obtain ⟨he, hr⟩ := insR_of hM (k := 0) rfl rfl
            exact ⟨_, _, _, _, _, _, congrArg (fun x => Ending.returned (.tuple #[x, .int .i64 0])) he, hr, Mem.trans0 hbs hM.nilL⟩
          ·
            rw [decide_eq_false hc8] at hA
            refine Ends.skip ?_
            refine Ends.seq ?_
            refine Ends.region ?_
            refine S.val hA (R.move rfl) rfl ?_; clear hA a; intro a hA
            refine S.val hA (R.move rfl) rfl ?_; clear hA a; intro a hA
            refine S.val hA (R.move rfl) rfl ?_; clear hA a; intro a hA
            refine S.call hA (R.callF Try.func71 rfl rfl rfl) rfl (growsA b6 n s m (by omega) kd (by omega) (by omega) _ (hM.hereN 1)) ?_; clear hA a
            rintro e w8 ⟨ac, cc, rs, rfl, hYY, hn⟩
            replace hM : Mem _ _ [bundle (insL 3 40 (gR kd n m s) none 0 none 0 ac cc rs), pt b6 #[.int .u64 (sd s (rt kd n.toNat * n.toNat)), .int .i64 m] 110, pt b1 #[.int .i64 0, .int .i64 0, .int .i64 0, .slice none 0 0, .slice none 0 0, .slice none 0 0] 56] _ := hM.callL 1 hn; clear hn
            refine ⟨.agg #[.int .i64 kd, .int .i64 n, .int .i64 0, .slice none 0 0, .slice none 0 0, .slice ac rs.length cc], rfl, fun a hA => ?_⟩
            refine S.storeA (k := 2) hA hM sz56 rfl rfl rfl rfl rfl rfl ?_; clear hM
            intro w9 hM
            replace hM : Mem _ _ [bundle (insL 3 40 (gR kd n m s) none 0 none 0 ac cc rs), pt b6 #[.int .u64 (sd s (rt kd n.toNat * n.toNat)), .int .i64 m] 110, pt b1 #[.int .i64 kd, .int .i64 n, .int .i64 0, .slice none 0 0, .slice none 0 0, .slice ac rs.length cc] 56] _ := hM
            refine S.val hA (R.assign rfl) rfl ?_; clear hA a; intro a hA
            refine S.done ?_
            replace hA : St 49 [(8, _), (9, _)] a := hA.sub ((.cons rfl (.cons rfl .nil)))
            refine Ends.retC2 (k := 2) Try.func36 Try.results36 hA hM rfl rfl rfl sz56 rfl ?_
            obtain ⟨rfl, rfl⟩ := gmk_rows hG (by omega) (by omega) (by omega)
            obtain ⟨he, hr⟩ := insR_of hM (k := 0) rfl hYY
            exact ⟨_, _, _, _, _, _, congrArg (fun x => Ending.returned (.tuple #[x, .int .i64 0])) he, hr, Mem.trans0 hbs hM.nilL⟩
    ·
      refine Ends.region ?_
      refine S.val hA (R.move rfl) rfl ?_; clear hA a; intro a hA
      refine S.val hA (R.lss rfl rfl) rfl ?_; clear hA a; intro a hA
      refine S.val hA (R.move rfl) rfl ?_; clear hA a; intro a hA
      refine hA.split (d := 22) rfl ?_ ?_
      · clear hA; intro hg10 hA
        refine S.no (dj := 22) hA (by kernel_rfl) rfl rfl rfl ?_; clear hA a; intro a hA
        refine S.no (dj := 22) hA (by kernel_rfl) rfl rfl rfl ?_; clear hA a; intro a hA
        refine S.val hA (R.pickT rfl rfl) rfl ?_; clear hA a; intro a hA
        refine S.val hA (R.move rfl) rfl ?_; clear hA a; intro a hA
        refine S.no (dj := 26) hA (by kernel_rfl) rfl rfl rfl ?_; clear hA a; intro a hA
        refine S.no (dj := 26) hA (by kernel_rfl) rfl rfl rfl ?_; clear hA a; intro a hA
        refine S.val hA (R.pickT rfl rfl) rfl ?_; clear hA a; intro a hA
        refine S.val hA (R.assign rfl) rfl ?_; clear hA a; intro a hA
        refine S.done ?_
        replace hA : St 49 [(0, _), (1, _), (2, _), (3, _), (8, _), (10, _), (19, _)] a := hA.sub ((.cons rfl (.cons rfl (.cons rfl (.cons rfl (.cons rfl (.cons rfl (.cons rfl .nil))))))))
        exact hJ _ _ ⟨hA.sub (.cons rfl (.cons rfl (.cons rfl (.cons rfl (.cons rfl (.cons rfl (.cons (by first | rfl | exact congrArg (fun b => some (Value.bool b)) (by first | (simp; done) | (simp [hg10]; done) | (have h80 := hg10; (try simp at h80); simp [h80]; done) | exact (decide_eq_false (fun h9 => hg10 h9.1)).symm)) .nil))))))), hM⟩
      · clear hA; intro hg10 hA
        refine S.valg (dj := 22) hA (by kernel_rfl) rfl (R.move rfl) rfl ?_; clear hA a; intro a hA
        refine S.valg (dj := 22) hA (by kernel_rfl) rfl (R.lss rfl rfl) rfl ?_; clear hA a; intro a hA
        refine S.val hA (R.pickF rfl rfl) rfl ?_; clear hA a; intro a hA
        refine S.val hA (R.move rfl) rfl ?_; clear hA a; intro a hA
        refine hA.split (d := 26) rfl ?_ ?_
        · clear hA; intro hg11 hA
          refine S.no (dj := 26) hA (by kernel_rfl) rfl rfl rfl ?_; clear hA a; intro a hA
          refine S.no (dj := 26) hA (by kernel_rfl) rfl rfl rfl ?_; clear hA a; intro a hA
          refine S.val hA (R.pickT rfl rfl) rfl ?_; clear hA a; intro a hA
          refine S.val hA (R.assign rfl) rfl ?_; clear hA a; intro a hA
          refine S.done ?_
          replace hA : St 49 [(0, _), (1, _), (2, _), (3, _), (8, _), (10, _), (19, _)] a := hA.sub ((.cons rfl (.cons rfl (.cons rfl (.cons rfl (.cons rfl (.cons rfl (.cons rfl .nil))))))))
          exact hJ _ _ ⟨hA.sub (.cons rfl (.cons rfl (.cons rfl (.cons rfl (.cons rfl (.cons rfl (.cons (by first | rfl | exact congrArg (fun b => some (Value.bool b)) (by first | (simp; done) | (simp [hg10, hg11]; done) | (have h80 := hg10; (try simp at h80); have h81 := hg11; (try simp at h81); simp [h80, h81]; done) | exact (decide_eq_false (fun h9 => hg10 h9.1)).symm | exact (decide_eq_false (fun h9 => hg11 h9.1)).symm)) .nil))))))), hM⟩
        · clear hA; intro hg11 hA
          refine S.valg (dj := 26) hA (by kernel_rfl) rfl (R.move rfl) rfl ?_; clear hA a; intro a hA
          refine S.valg (dj := 26) hA (by kernel_rfl) rfl (R.gtr rfl rfl) rfl ?_; clear hA a; intro a hA
          refine S.val hA (R.pickF rfl rfl) rfl ?_; clear hA a; intro a hA
          refine S.val hA (R.assign rfl) rfl ?_; clear hA a; intro a hA
          refine S.done ?_
          replace hA : St 49 [(0, _), (1, _), (2, _), (3, _), (8, _), (10, _), (19, _)] a := hA.sub ((.cons rfl (.cons rfl (.cons rfl (.cons rfl (.cons rfl (.cons rfl (.cons rfl .nil))))))))
          exact hJ _ _ ⟨hA.sub (.cons rfl (.cons rfl (.cons rfl (.cons rfl (.cons rfl (.cons rfl (.cons (by first | rfl | exact congrArg (fun b => some (Value.bool b)) (by first | (simp; done) | (simp [hg10, hg11]; done) | (have h80 := hg10; (try simp at h80); have h81 := hg11; (try simp at h81); simp [h80, h81]; done) | exact (decide_eq_false (fun h9 => hg10 h9.1)).symm | exact (decide_eq_false (fun h9 => hg11 h9.1)).symm)) .nil))))))), hM⟩
  ·
    rw [decide_eq_false hc3] at hA
    refine Ends.seq ?_
    refine Ends.seq ?_
    refine Ends.region ?_
    refine S.val hA (R.eql rfl rfl) rfl ?_; clear hA a; intro a hA
    refine S.val hA (R.assign rfl) rfl ?_; clear hA a; intro a hA
    refine S.done ?_
    replace hA : St 49 [(0, _), (1, _), (2, _), (3, _), (8, _), (10, _), (12, _), (16, _)] a := hA.sub ((.cons rfl (.cons rfl (.cons rfl (.cons rfl (.cons rfl (.cons rfl (.cons rfl (.cons rfl .nil)))))))))
    refine Ends.ite hA rfl (fun hc12 => ?_) (fun hc12 => ?_)
    ·
      rw [decide_eq_true hc12] at hA
      refine Ends.skip ?_
      refine Ends.condT hA rfl ?_
      refine Ends.skip ?_
      refine Ends.inBlock ?_
      refine Ends.seq ?_
      refine Ends.block ?_
      refine Ends.seq ?_
      refine Ends.cut (fun (a : Act) (wv : World) => St 49 [(0, .int .i64 kd), (1, .int .i64 n), (2, .int .i64 m), (3, .int .u64 s), (8, .pointer (some ⟨b1, 0, none⟩)), (10, .int .i64 24), (19, .bool (decide (((n < 1 ∨ m < 0) ∨ 2147483647 < m))))] a ∧ Mem w nof [pt b1 #[.int .i64 0, .int .i64 0, .int .i64 0, .slice none 0 0, .slice none 0 0, .slice none 0 0] 56] wv) ?_ (fun k2 hJ => ?_)
      · clear hA hM a; rintro a w10 ⟨hA, hM⟩
        refine Ends.ite hA rfl (fun hc13 => ?_) (fun hc13 => ?_)
        ·
          rw [decide_eq_true hc13] at hA
          refine Ends.seq ?_
          refine Ends.region ?_
          refine S.val hA (R.build (cells := #[.int .i64 0, .int .i64 0, .int .i64 0, .slice none 0 0, .slice none 0 0, .slice none 0 0]) rfl (by kernel_rfl)) rfl ?_; clear hA a; intro a hA
          refine S.storeA (k := 0) hA hM sz56 rfl rfl rfl rfl rfl rfl ?_; clear hM
          intro w11 hM
          replace hM : Mem _ _ [pt b1 #[.int .i64 0, .int .i64 0, .int .i64 0, .slice none 0 0, .slice none 0 0, .slice none 0 0] 56] _ := hM
          refine S.val hA (R.assign rfl) rfl ?_; clear hA a; intro a hA
          refine S.done ?_
          replace hA : St 49 [(0, _), (1, _), (2, _), (3, _), (8, _), (9, _)] a := hA.sub ((.cons rfl (.cons rfl (.cons rfl (.cons rfl (.cons rfl (.cons rfl .nil)))))))
          refine Ends.retC2 (k := 0) Try.func36 Try.results36 hA hM rfl rfl rfl sz56 rfl ?_
          obtain ⟨rfl, rfl⟩ := gmk_arg hG (by omega) (by omega)
          exact ⟨none, 0, none, 0, none, 0, rfl, ⟨IntSl.nil _, IntSl.nil _, RowsV.nil _⟩, Mem.trans0 hbs hM.nilL⟩
        ·
          rw [decide_eq_false hc13] at hA
          refine Ends.seq ?_
          refine Ends.region ?_
          refine S.val hA (R.move rfl) rfl ?_; clear hA a; intro a hA
          refine S.val hA (R.move rfl) rfl ?_; clear hA a; intro a hA
          refine S.val hA (R.gtr rfl rfl) rfl ?_; clear hA a; intro a hA
          refine S.val hA (R.assign rfl) rfl ?_; clear hA a; intro a hA
          refine S.done ?_
          replace hA : St 49 [(0, _), (1, _), (2, _), (3, _), (8, _), (31, _)] a := hA.sub ((.cons rfl (.cons rfl (.cons rfl (.cons rfl (.cons rfl (.cons rfl .nil)))))))
          refine Ends.ite hA rfl (fun hc14 => ?_) (fun hc14 => ?_)
          ·
            rw [decide_eq_true hc14] at hA
            refine Ends.seq ?_
            refine Ends.region ?_
            refine S.val hA (R.build (cells := #[.int .i64 0, .int .i64 0, .int .i64 0, .slice none 0 0, .slice none 0 0, .slice none 0 0]) rfl (by kernel_rfl)) rfl ?_; clear hA a; intro a hA
            refine S.storeA (k := 0) hA hM sz56 rfl rfl rfl rfl rfl rfl ?_; clear hM
            intro w12 hM
            replace hM : Mem _ _ [pt b1 #[.int .i64 0, .int .i64 0, .int .i64 0, .slice none 0 0, .slice none 0 0, .slice none 0 0] 56] _ := hM
            refine S.val hA (R.assign rfl) rfl ?_; clear hA a; intro a hA
            refine S.done ?_
            replace hA : St 49 [(0, _), (1, _), (2, _), (3, _), (8, _), (9, _)] a := hA.sub ((.cons rfl (.cons rfl (.cons rfl (.cons rfl (.cons rfl (.cons rfl .nil)))))))
            refine Ends.retC2 (k := 0) Try.func36 Try.results36 hA hM rfl rfl rfl sz56 rfl ?_
            obtain ⟨rfl, rfl⟩ := gmk_big hG (by omega) (by omega) (by omega)
            exact ⟨none, 0, none, 0, none, 0, rfl, ⟨IntSl.nil _, IntSl.nil _, RowsV.nil _⟩, Mem.trans0 hbs hM.nilL⟩
          ·
            rw [decide_eq_false hc14] at hA
            refine Ends.skip ?_
            refine Ends.inBlock ?_
            refine Ends.seq ?_
            refine Ends.region ?_
            refine S.val hA (R.move rfl) rfl ?_; clear hA a; intro a hA
            refine S.val hA (R.move rfl) rfl ?_; clear hA a; intro a hA
            refine S.val hA (R.build (cells := #[.int .u64 s, .int .i64 m]) rfl (by kernel_rfl)) rfl ?_; clear hA a; intro a hA
            refine S.box hA hM rfl rfl ?_; clear hA hM a; intro b15 w13 hb16 hM a hA
            replace hM : Mem _ _ [pt b15 #[.int .u64 s, .int .i64 m] 110, pt b1 #[.int .i64 0, .int .i64 0, .int .i64 0, .slice none 0 0, .slice none 0 0, .slice none 0 0] 56] _ := hM
            refine S.val hA (R.assign rfl) rfl ?_; clear hA a; intro a hA
            refine S.done ?_
            replace hA : St 49 [(0, _), (1, _), (8, _), (11, _)] a := hA.sub ((.cons rfl (.cons rfl (.cons rfl (.cons rfl .nil)))))
            refine Ends.seq ?_
            refine Ends.seq ?_
            refine Ends.region ?_
            refine S.val hA (R.move rfl) rfl ?_; clear hA a; intro a hA
            refine S.val hA (R.eql rfl rfl) rfl ?_; clear hA a; intro a hA
            refine S.done ?_
            replace hA : St 49 [(0, _), (1, _), (8, _), (11, _), (41, _)] a := hA.sub ((.cons rfl (.cons rfl (.cons rfl (.cons rfl (.cons rfl .nil))))))
            refine Ends.ite hA rfl (fun hc17 => ?_) (fun hc17 => ?_)
            ·
              rw [decide_eq_true hc17] at hA
              refine Ends.seq ?_
              refine Ends.region ?_
              refine S.val hA (R.move rfl) rfl ?_; clear hA a; intro a hA
              refine S.val hA (R.move rfl) rfl ?_; clear hA a; intro a hA
              refine S.call hA (R.callF Try.func70 rfl rfl rfl) rfl (gknap b15 n s m (by omega) (by omega) _ (hM.hereN 1)) ?_; clear hA a
              rintro e w14 ⟨aw, cw, av, cv, rfl, hn⟩
              replace hM : Mem _ _ [bundle (insL 3 40 (gK n m s) aw cw av cv none 0 []), pt b15 #[.int .u64 (sd s (2 * n.toNat)), .int .i64 m] 110, pt b1 #[.int .i64 0, .int .i64 0, .int .i64 0, .slice none 0 0, .slice none 0 0, .slice none 0 0] 56] _ := hM.callL 1 hn; clear hn
              refine ⟨.agg #[.int .i64 1, .int .i64 n, .int .i64 (min ((nmL s m evn n.toNat).sum / 2) 2147483647), .slice aw ((nmL s m evn n.toNat).length) cw, .slice av ((nmL s m odd1 n.toNat).length) cv, .slice none 0 0], rfl, fun a hA => ?_⟩
              refine S.storeA (k := 2) hA hM sz56 rfl rfl rfl rfl rfl rfl ?_; clear hM
              intro w15 hM
              replace hM : Mem _ _ [bundle (insL 3 40 (gK n m s) aw cw av cv none 0 []), pt b15 #[.int .u64 (sd s (2 * n.toNat)), .int .i64 m] 110, pt b1 #[.int .i64 1, .int .i64 n, .int .i64 (min ((nmL s m evn n.toNat).sum / 2) 2147483647), .slice aw ((nmL s m evn n.toNat).length) cw, .slice av ((nmL s m odd1 n.toNat).length) cv, .slice none 0 0] 56] _ := hM
              refine S.val hA (R.assign rfl) rfl ?_; clear hA a; intro a hA
              refine S.done ?_
              replace hA : St 49 [(0, _), (1, _), (8, _), (9, _), (11, _)] a := hA.sub ((.cons rfl (.cons rfl (.cons rfl (.cons rfl (.cons rfl .nil))))))
              refine Ends.retC2 (k := 2) Try.func36 Try.results36 hA hM rfl rfl rfl sz56 rfl ?_
              have hkd : kd = 1 := by omega
              subst hkd
              obtain ⟨rfl, rfl⟩ := gmk_sack hG (by omega) (by omega)
              obtain ⟨he, hr⟩ := insR_of hM (k := 0) rfl rfl
              exact ⟨_, _, _, _, _, _, congrArg (fun x => Ending.returned (.tuple #[x, .int .i64 0])) he, hr, Mem.trans0 hbs hM.nilL⟩
            ·
              rw [decide_eq_false hc17] at hA
              refine Ends.skip ?_
              refine Ends.seq ?_
              refine Ends.region ?_
              refine S.val hA (R.move rfl) rfl ?_; clear hA a; intro a hA
              refine S.val hA (R.move rfl) rfl ?_; clear hA a; intro a hA
              refine S.val hA (R.move rfl) rfl ?_; clear hA a; intro a hA
              refine S.call hA (R.callF Try.func71 rfl rfl rfl) rfl (growsA b15 n s m (by omega) kd (by omega) (by omega) _ (hM.hereN 1)) ?_; clear hA a
              rintro e w16 ⟨ac, cc, rs, rfl, hYY, hn⟩
              replace hM : Mem _ _ [bundle (insL 3 40 (gR kd n m s) none 0 none 0 ac cc rs), pt b15 #[.int .u64 (sd s (rt kd n.toNat * n.toNat)), .int .i64 m] 110, pt b1 #[.int .i64 0, .int .i64 0, .int .i64 0, .slice none 0 0, .slice none 0 0, .slice none 0 0] 56] _ := hM.callL 1 hn; clear hn
              refine ⟨.agg #[.int .i64 kd, .int .i64 n, .int .i64 0, .slice none 0 0, .slice none 0 0, .slice ac rs.length cc], rfl, fun a hA => ?_⟩
              refine S.storeA (k := 2) hA hM sz56 rfl rfl rfl rfl rfl rfl ?_; clear hM
              intro w17 hM
              replace hM : Mem _ _ [bundle (insL 3 40 (gR kd n m s) none 0 none 0 ac cc rs), pt b15 #[.int .u64 (sd s (rt kd n.toNat * n.toNat)), .int .i64 m] 110, pt b1 #[.int .i64 kd, .int .i64 n, .int .i64 0, .slice none 0 0, .slice none 0 0, .slice ac rs.length cc] 56] _ := hM
              refine S.val hA (R.assign rfl) rfl ?_; clear hA a; intro a hA
              refine S.done ?_
              replace hA : St 49 [(8, _), (9, _)] a := hA.sub ((.cons rfl (.cons rfl .nil)))
              refine Ends.retC2 (k := 2) Try.func36 Try.results36 hA hM rfl rfl rfl sz56 rfl ?_
              obtain ⟨rfl, rfl⟩ := gmk_rows hG (by omega) (by omega) (by omega)
              obtain ⟨he, hr⟩ := insR_of hM (k := 0) rfl hYY
              exact ⟨_, _, _, _, _, _, congrArg (fun x => Ending.returned (.tuple #[x, .int .i64 0])) he, hr, Mem.trans0 hbs hM.nilL⟩
      ·
        refine Ends.region ?_
        refine S.val hA (R.move rfl) rfl ?_; clear hA a; intro a hA
        refine S.val hA (R.lss rfl rfl) rfl ?_; clear hA a; intro a hA
        refine S.val hA (R.move rfl) rfl ?_; clear hA a; intro a hA
        refine hA.split (d := 22) rfl ?_ ?_
        · clear hA; intro hg19 hA
          refine S.no (dj := 22) hA (by kernel_rfl) rfl rfl rfl ?_; clear hA a; intro a hA
          refine S.no (dj := 22) hA (by kernel_rfl) rfl rfl rfl ?_; clear hA a; intro a hA
          refine S.val hA (R.pickT rfl rfl) rfl ?_; clear hA a; intro a hA
          refine S.val hA (R.move rfl) rfl ?_; clear hA a; intro a hA
          refine S.no (dj := 26) hA (by kernel_rfl) rfl rfl rfl ?_; clear hA a; intro a hA
          refine S.no (dj := 26) hA (by kernel_rfl) rfl rfl rfl ?_; clear hA a; intro a hA
          refine S.val hA (R.pickT rfl rfl) rfl ?_; clear hA a; intro a hA
          refine S.val hA (R.assign rfl) rfl ?_; clear hA a; intro a hA
          refine S.done ?_
          replace hA : St 49 [(0, _), (1, _), (2, _), (3, _), (8, _), (10, _), (19, _)] a := hA.sub ((.cons rfl (.cons rfl (.cons rfl (.cons rfl (.cons rfl (.cons rfl (.cons rfl .nil))))))))
          exact hJ _ _ ⟨hA.sub (.cons rfl (.cons rfl (.cons rfl (.cons rfl (.cons rfl (.cons rfl (.cons (by first | rfl | exact congrArg (fun b => some (Value.bool b)) (by first | (simp; done) | (simp [hg19]; done) | (have h80 := hg19; (try simp at h80); simp [h80]; done) | exact (decide_eq_false (fun h9 => hg19 h9.1)).symm)) .nil))))))), hM⟩
        · clear hA; intro hg19 hA
          refine S.valg (dj := 22) hA (by kernel_rfl) rfl (R.move rfl) rfl ?_; clear hA a; intro a hA
          refine S.valg (dj := 22) hA (by kernel_rfl) rfl (R.lss rfl rfl) rfl ?_; clear hA a; intro a hA
          refine S.val hA (R.pickF rfl rfl) rfl ?_; clear hA a; intro a hA
          refine S.val hA (R.move rfl) rfl ?_; clear hA a; intro a hA
          refine hA.split (d := 26) rfl ?_ ?_
          · clear hA; intro hg20 hA
            refine S.no (dj := 26) hA (by kernel_rfl) rfl rfl rfl ?_; clear hA a; intro a hA
            refine S.no (dj := 26) hA (by kernel_rfl) rfl rfl rfl ?_; clear hA a; intro a hA
            refine S.val hA (R.pickT rfl rfl) rfl ?_; clear hA a; intro a hA
            refine S.val hA (R.assign rfl) rfl ?_; clear hA a; intro a hA
            refine S.done ?_
            replace hA : St 49 [(0, _), (1, _), (2, _), (3, _), (8, _), (10, _), (19, _)] a := hA.sub ((.cons rfl (.cons rfl (.cons rfl (.cons rfl (.cons rfl (.cons rfl (.cons rfl .nil))))))))
            exact hJ _ _ ⟨hA.sub (.cons rfl (.cons rfl (.cons rfl (.cons rfl (.cons rfl (.cons rfl (.cons (by first | rfl | exact congrArg (fun b => some (Value.bool b)) (by first | (simp; done) | (simp [hg19, hg20]; done) | (have h80 := hg19; (try simp at h80); have h81 := hg20; (try simp at h81); simp [h80, h81]; done) | exact (decide_eq_false (fun h9 => hg19 h9.1)).symm | exact (decide_eq_false (fun h9 => hg20 h9.1)).symm)) .nil))))))), hM⟩
          · clear hA; intro hg20 hA
            refine S.valg (dj := 26) hA (by kernel_rfl) rfl (R.move rfl) rfl ?_; clear hA a; intro a hA
            refine S.valg (dj := 26) hA (by kernel_rfl) rfl (R.gtr rfl rfl) rfl ?_; clear hA a; intro a hA
            refine S.val hA (R.pickF rfl rfl) rfl ?_; clear hA a; intro a hA
            refine S.val hA (R.assign rfl) rfl ?_; clear hA a; intro a hA
            refine S.done ?_
            replace hA : St 49 [(0, _), (1, _), (2, _), (3, _), (8, _), (10, _), (19, _)] a := hA.sub ((.cons rfl (.cons rfl (.cons rfl (.cons rfl (.cons rfl (.cons rfl (.cons rfl .nil))))))))
            exact hJ _ _ ⟨hA.sub (.cons rfl (.cons rfl (.cons rfl (.cons rfl (.cons rfl (.cons rfl (.cons (by first | rfl | exact congrArg (fun b => some (Value.bool b)) (by first | (simp; done) | (simp [hg19, hg20]; done) | (have h80 := hg19; (try simp at h80); have h81 := hg20; (try simp at h81); simp [h80, h81]; done) | exact (decide_eq_false (fun h9 => hg19 h9.1)).symm | exact (decide_eq_false (fun h9 => hg20 h9.1)).symm)) .nil))))))), hM⟩
    ·
      rw [decide_eq_false hc12] at hA
      refine Ends.region ?_
      refine S.val hA (R.eql rfl rfl) rfl ?_; clear hA a; intro a hA
      refine S.val hA (R.assign rfl) rfl ?_; clear hA a; intro a hA
      refine S.done ?_
      replace hA : St 49 [(0, _), (1, _), (2, _), (3, _), (8, _), (10, _), (16, _)] a := hA.sub ((.cons rfl (.cons rfl (.cons rfl (.cons rfl (.cons rfl (.cons rfl (.cons rfl .nil))))))))
      refine Ends.ite hA rfl (fun hc21 => ?_) (fun hc21 => ?_)
      ·
        rw [decide_eq_true hc21] at hA
        refine Ends.skip ?_
        refine Ends.inBlock ?_
        refine Ends.seq ?_
        refine Ends.block ?_
        refine Ends.seq ?_
        refine Ends.cut (fun (a : Act) (wv : World) => St 49 [(0, .int .i64 kd), (1, .int .i64 n), (2, .int .i64 m), (3, .int .u64 s), (8, .pointer (some ⟨b1, 0, none⟩)), (10, .int .i64 24), (19, .bool (decide (((n < 1 ∨ m < 0) ∨ 2147483647 < m))))] a ∧ Mem w nof [pt b1 #[.int .i64 0, .int .i64 0, .int .i64 0, .slice none 0 0, .slice none 0 0, .slice none 0 0] 56] wv) ?_ (fun k2 hJ => ?_)
        · clear hA hM a; rintro a w18 ⟨hA, hM⟩
          refine Ends.ite hA rfl (fun hc22 => ?_) (fun hc22 => ?_)
          ·
            rw [decide_eq_true hc22] at hA
            refine Ends.seq ?_
            refine Ends.region ?_
            refine S.val hA (R.build (cells := #[.int .i64 0, .int .i64 0, .int .i64 0, .slice none 0 0, .slice none 0 0, .slice none 0 0]) rfl (by kernel_rfl)) rfl ?_; clear hA a; intro a hA
            refine S.storeA (k := 0) hA hM sz56 rfl rfl rfl rfl rfl rfl ?_; clear hM
            intro w19 hM
            replace hM : Mem _ _ [pt b1 #[.int .i64 0, .int .i64 0, .int .i64 0, .slice none 0 0, .slice none 0 0, .slice none 0 0] 56] _ := hM
            refine S.val hA (R.assign rfl) rfl ?_; clear hA a; intro a hA
            refine S.done ?_
            replace hA : St 49 [(0, _), (1, _), (2, _), (3, _), (8, _), (9, _)] a := hA.sub ((.cons rfl (.cons rfl (.cons rfl (.cons rfl (.cons rfl (.cons rfl .nil)))))))
            refine Ends.retC2 (k := 0) Try.func36 Try.results36 hA hM rfl rfl rfl sz56 rfl ?_
            obtain ⟨rfl, rfl⟩ := gmk_arg hG (by omega) (by omega)
            exact ⟨none, 0, none, 0, none, 0, rfl, ⟨IntSl.nil _, IntSl.nil _, RowsV.nil _⟩, Mem.trans0 hbs hM.nilL⟩
          ·
            rw [decide_eq_false hc22] at hA
            refine Ends.seq ?_
            refine Ends.region ?_
            refine S.val hA (R.move rfl) rfl ?_; clear hA a; intro a hA
            refine S.val hA (R.move rfl) rfl ?_; clear hA a; intro a hA
            refine S.val hA (R.gtr rfl rfl) rfl ?_; clear hA a; intro a hA
            refine S.val hA (R.assign rfl) rfl ?_; clear hA a; intro a hA
            refine S.done ?_
            replace hA : St 49 [(0, _), (1, _), (2, _), (3, _), (8, _), (31, _)] a := hA.sub ((.cons rfl (.cons rfl (.cons rfl (.cons rfl (.cons rfl (.cons rfl .nil)))))))
            refine Ends.ite hA rfl (fun hc23 => ?_) (fun hc23 => ?_)
            ·
              rw [decide_eq_true hc23] at hA
              refine Ends.seq ?_
              refine Ends.region ?_
              refine S.val hA (R.build (cells := #[.int .i64 0, .int .i64 0, .int .i64 0, .slice none 0 0, .slice none 0 0, .slice none 0 0]) rfl (by kernel_rfl)) rfl ?_; clear hA a; intro a hA
              refine S.storeA (k := 0) hA hM sz56 rfl rfl rfl rfl rfl rfl ?_; clear hM
              intro w20 hM
              replace hM : Mem _ _ [pt b1 #[.int .i64 0, .int .i64 0, .int .i64 0, .slice none 0 0, .slice none 0 0, .slice none 0 0] 56] _ := hM
              refine S.val hA (R.assign rfl) rfl ?_; clear hA a; intro a hA
              refine S.done ?_
              replace hA : St 49 [(0, _), (1, _), (2, _), (3, _), (8, _), (9, _)] a := hA.sub ((.cons rfl (.cons rfl (.cons rfl (.cons rfl (.cons rfl (.cons rfl .nil)))))))
              refine Ends.retC2 (k := 0) Try.func36 Try.results36 hA hM rfl rfl rfl sz56 rfl ?_
              obtain ⟨rfl, rfl⟩ := gmk_big hG (by omega) (by omega) (by omega)
              exact ⟨none, 0, none, 0, none, 0, rfl, ⟨IntSl.nil _, IntSl.nil _, RowsV.nil _⟩, Mem.trans0 hbs hM.nilL⟩
            ·
              rw [decide_eq_false hc23] at hA
              refine Ends.skip ?_
              refine Ends.inBlock ?_
              refine Ends.seq ?_
              refine Ends.region ?_
              refine S.val hA (R.move rfl) rfl ?_; clear hA a; intro a hA
              refine S.val hA (R.move rfl) rfl ?_; clear hA a; intro a hA
              refine S.val hA (R.build (cells := #[.int .u64 s, .int .i64 m]) rfl (by kernel_rfl)) rfl ?_; clear hA a; intro a hA
              refine S.box hA hM rfl rfl ?_; clear hA hM a; intro b24 w21 hb25 hM a hA
              replace hM : Mem _ _ [pt b24 #[.int .u64 s, .int .i64 m] 110, pt b1 #[.int .i64 0, .int .i64 0, .int .i64 0, .slice none 0 0, .slice none 0 0, .slice none 0 0] 56] _ := hM
              refine S.val hA (R.assign rfl) rfl ?_; clear hA a; intro a hA
              refine S.done ?_
              replace hA : St 49 [(0, _), (1, _), (8, _), (11, _)] a := hA.sub ((.cons rfl (.cons rfl (.cons rfl (.cons rfl .nil)))))
              refine Ends.seq ?_
              refine Ends.seq ?_
              refine Ends.region ?_
              refine S.val hA (R.move rfl) rfl ?_; clear hA a; intro a hA
              refine S.val hA (R.eql rfl rfl) rfl ?_; clear hA a; intro a hA
              refine S.done ?_
              replace hA : St 49 [(0, _), (1, _), (8, _), (11, _), (41, _)] a := hA.sub ((.cons rfl (.cons rfl (.cons rfl (.cons rfl (.cons rfl .nil))))))
              refine Ends.ite hA rfl (fun hc26 => ?_) (fun hc26 => ?_)
              ·
                rw [decide_eq_true hc26] at hA
                refine Ends.seq ?_
                refine Ends.region ?_
                refine S.val hA (R.move rfl) rfl ?_; clear hA a; intro a hA
                refine S.val hA (R.move rfl) rfl ?_; clear hA a; intro a hA
                refine S.call hA (R.callF Try.func70 rfl rfl rfl) rfl (gknap b24 n s m (by omega) (by omega) _ (hM.hereN 1)) ?_; clear hA a
                rintro e w22 ⟨aw, cw, av, cv, rfl, hn⟩
                replace hM : Mem _ _ [bundle (insL 3 40 (gK n m s) aw cw av cv none 0 []), pt b24 #[.int .u64 (sd s (2 * n.toNat)), .int .i64 m] 110, pt b1 #[.int .i64 0, .int .i64 0, .int .i64 0, .slice none 0 0, .slice none 0 0, .slice none 0 0] 56] _ := hM.callL 1 hn; clear hn
                refine ⟨.agg #[.int .i64 1, .int .i64 n, .int .i64 (min ((nmL s m evn n.toNat).sum / 2) 2147483647), .slice aw ((nmL s m evn n.toNat).length) cw, .slice av ((nmL s m odd1 n.toNat).length) cv, .slice none 0 0], rfl, fun a hA => ?_⟩
                refine S.storeA (k := 2) hA hM sz56 rfl rfl rfl rfl rfl rfl ?_; clear hM
                intro w23 hM
                replace hM : Mem _ _ [bundle (insL 3 40 (gK n m s) aw cw av cv none 0 []), pt b24 #[.int .u64 (sd s (2 * n.toNat)), .int .i64 m] 110, pt b1 #[.int .i64 1, .int .i64 n, .int .i64 (min ((nmL s m evn n.toNat).sum / 2) 2147483647), .slice aw ((nmL s m evn n.toNat).length) cw, .slice av ((nmL s m odd1 n.toNat).length) cv, .slice none 0 0] 56] _ := hM
                refine S.val hA (R.assign rfl) rfl ?_; clear hA a; intro a hA
                refine S.done ?_
                replace hA : St 49 [(0, _), (1, _), (8, _), (9, _), (11, _)] a := hA.sub ((.cons rfl (.cons rfl (.cons rfl (.cons rfl (.cons rfl .nil))))))
                refine Ends.retC2 (k := 2) Try.func36 Try.results36 hA hM rfl rfl rfl sz56 rfl ?_
                have hkd : kd = 1 := by omega
                subst hkd
                obtain ⟨rfl, rfl⟩ := gmk_sack hG (by omega) (by omega)
                obtain ⟨he, hr⟩ := insR_of hM (k := 0) rfl rfl
                exact ⟨_, _, _, _, _, _, congrArg (fun x => Ending.returned (.tuple #[x, .int .i64 0])) he, hr, Mem.trans0 hbs hM.nilL⟩
              ·
                rw [decide_eq_false hc26] at hA
                refine Ends.skip ?_
                refine Ends.seq ?_
                refine Ends.region ?_
                refine S.val hA (R.move rfl) rfl ?_; clear hA a; intro a hA
                refine S.val hA (R.move rfl) rfl ?_; clear hA a; intro a hA
                refine S.val hA (R.move rfl) rfl ?_; clear hA a; intro a hA
                refine S.call hA (R.callF Try.func71 rfl rfl rfl) rfl (growsA b24 n s m (by omega) kd (by omega) (by omega) _ (hM.hereN 1)) ?_; clear hA a
                rintro e w24 ⟨ac, cc, rs, rfl, hYY, hn⟩
                replace hM : Mem _ _ [bundle (insL 3 40 (gR kd n m s) none 0 none 0 ac cc rs), pt b24 #[.int .u64 (sd s (rt kd n.toNat * n.toNat)), .int .i64 m] 110, pt b1 #[.int .i64 0, .int .i64 0, .int .i64 0, .slice none 0 0, .slice none 0 0, .slice none 0 0] 56] _ := hM.callL 1 hn; clear hn
                refine ⟨.agg #[.int .i64 kd, .int .i64 n, .int .i64 0, .slice none 0 0, .slice none 0 0, .slice ac rs.length cc], rfl, fun a hA => ?_⟩
                refine S.storeA (k := 2) hA hM sz56 rfl rfl rfl rfl rfl rfl ?_; clear hM
                intro w25 hM
                replace hM : Mem _ _ [bundle (insL 3 40 (gR kd n m s) none 0 none 0 ac cc rs), pt b24 #[.int .u64 (sd s (rt kd n.toNat * n.toNat)), .int .i64 m] 110, pt b1 #[.int .i64 kd, .int .i64 n, .int .i64 0, .slice none 0 0, .slice none 0 0, .slice ac rs.length cc] 56] _ := hM
                refine S.val hA (R.assign rfl) rfl ?_; clear hA a; intro a hA
                refine S.done ?_
                replace hA : St 49 [(8, _), (9, _)] a := hA.sub ((.cons rfl (.cons rfl .nil)))
                refine Ends.retC2 (k := 2) Try.func36 Try.results36 hA hM rfl rfl rfl sz56 rfl ?_
                obtain ⟨rfl, rfl⟩ := gmk_rows hG (by omega) (by omega) (by omega)
                obtain ⟨he, hr⟩ := insR_of hM (k := 0) rfl hYY
                exact ⟨_, _, _, _, _, _, congrArg (fun x => Ending.returned (.tuple #[x, .int .i64 0])) he, hr, Mem.trans0 hbs hM.nilL⟩
        ·
          refine Ends.region ?_
          refine S.val hA (R.move rfl) rfl ?_; clear hA a; intro a hA
          refine S.val hA (R.lss rfl rfl) rfl ?_; clear hA a; intro a hA
          refine S.val hA (R.move rfl) rfl ?_; clear hA a; intro a hA
          refine hA.split (d := 22) rfl ?_ ?_
          · clear hA; intro hg28 hA
            refine S.no (dj := 22) hA (by kernel_rfl) rfl rfl rfl ?_; clear hA a; intro a hA
            refine S.no (dj := 22) hA (by kernel_rfl) rfl rfl rfl ?_; clear hA a; intro a hA
            refine S.val hA (R.pickT rfl rfl) rfl ?_; clear hA a; intro a hA
            refine S.val hA (R.move rfl) rfl ?_; clear hA a; intro a hA
            refine S.no (dj := 26) hA (by kernel_rfl) rfl rfl rfl ?_; clear hA a; intro a hA
            refine S.no (dj := 26) hA (by kernel_rfl) rfl rfl rfl ?_; clear hA a; intro a hA
            refine S.val hA (R.pickT rfl rfl) rfl ?_; clear hA a; intro a hA
            refine S.val hA (R.assign rfl) rfl ?_; clear hA a; intro a hA
            refine S.done ?_
            replace hA : St 49 [(0, _), (1, _), (2, _), (3, _), (8, _), (10, _), (19, _)] a := hA.sub ((.cons rfl (.cons rfl (.cons rfl (.cons rfl (.cons rfl (.cons rfl (.cons rfl .nil))))))))
            exact hJ _ _ ⟨hA.sub (.cons rfl (.cons rfl (.cons rfl (.cons rfl (.cons rfl (.cons rfl (.cons (by first | rfl | exact congrArg (fun b => some (Value.bool b)) (by first | (simp; done) | (simp [hg28]; done) | (have h80 := hg28; (try simp at h80); simp [h80]; done) | exact (decide_eq_false (fun h9 => hg28 h9.1)).symm)) .nil))))))), hM⟩
          · clear hA; intro hg28 hA
            refine S.valg (dj := 22) hA (by kernel_rfl) rfl (R.move rfl) rfl ?_; clear hA a; intro a hA
            refine S.valg (dj := 22) hA (by kernel_rfl) rfl (R.lss rfl rfl) rfl ?_; clear hA a; intro a hA
            refine S.val hA (R.pickF rfl rfl) rfl ?_; clear hA a; intro a hA
            refine S.val hA (R.move rfl) rfl ?_; clear hA a; intro a hA
            refine hA.split (d := 26) rfl ?_ ?_
            · clear hA; intro hg29 hA
              refine S.no (dj := 26) hA (by kernel_rfl) rfl rfl rfl ?_; clear hA a; intro a hA
              refine S.no (dj := 26) hA (by kernel_rfl) rfl rfl rfl ?_; clear hA a; intro a hA
              refine S.val hA (R.pickT rfl rfl) rfl ?_; clear hA a; intro a hA
              refine S.val hA (R.assign rfl) rfl ?_; clear hA a; intro a hA
              refine S.done ?_
              replace hA : St 49 [(0, _), (1, _), (2, _), (3, _), (8, _), (10, _), (19, _)] a := hA.sub ((.cons rfl (.cons rfl (.cons rfl (.cons rfl (.cons rfl (.cons rfl (.cons rfl .nil))))))))
              exact hJ _ _ ⟨hA.sub (.cons rfl (.cons rfl (.cons rfl (.cons rfl (.cons rfl (.cons rfl (.cons (by first | rfl | exact congrArg (fun b => some (Value.bool b)) (by first | (simp; done) | (simp [hg28, hg29]; done) | (have h80 := hg28; (try simp at h80); have h81 := hg29; (try simp at h81); simp [h80, h81]; done) | exact (decide_eq_false (fun h9 => hg28 h9.1)).symm | exact (decide_eq_false (fun h9 => hg29 h9.1)).symm)) .nil))))))), hM⟩
            · clear hA; intro hg29 hA
              refine S.valg (dj := 26) hA (by kernel_rfl) rfl (R.move rfl) rfl ?_; clear hA a; intro a hA
              refine S.valg (dj := 26) hA (by kernel_rfl) rfl (R.gtr rfl rfl) rfl ?_; clear hA a; intro a hA
              refine S.val hA (R.pickF rfl rfl) rfl ?_; clear hA a; intro a hA
              refine S.val hA (R.assign rfl) rfl ?_; clear hA a; intro a hA
              refine S.done ?_
              replace hA : St 49 [(0, _), (1, _), (2, _), (3, _), (8, _), (10, _), (19, _)] a := hA.sub ((.cons rfl (.cons rfl (.cons rfl (.cons rfl (.cons rfl (.cons rfl (.cons rfl .nil))))))))
              exact hJ _ _ ⟨hA.sub (.cons rfl (.cons rfl (.cons rfl (.cons rfl (.cons rfl (.cons rfl (.cons (by first | rfl | exact congrArg (fun b => some (Value.bool b)) (by first | (simp; done) | (simp [hg28, hg29]; done) | (have h80 := hg28; (try simp at h80); have h81 := hg29; (try simp at h81); simp [h80, h81]; done) | exact (decide_eq_false (fun h9 => hg28 h9.1)).symm | exact (decide_eq_false (fun h9 => hg29 h9.1)).symm)) .nil))))))), hM⟩
      ·
        rw [decide_eq_false hc21] at hA
        refine Ends.seq ?_
        refine Ends.region ?_
        refine S.val hA (R.build (cells := #[.int .i64 0, .int .i64 0, .int .i64 0, .slice none 0 0, .slice none 0 0, .slice none 0 0]) rfl (by kernel_rfl)) rfl ?_; clear hA a; intro a hA
        refine S.storeA (k := 0) hA hM sz56 rfl rfl rfl rfl rfl rfl ?_; clear hM
        intro w26 hM
        replace hM : Mem _ _ [pt b1 #[.int .i64 0, .int .i64 0, .int .i64 0, .slice none 0 0, .slice none 0 0, .slice none 0 0] 56] _ := hM
        refine S.val hA (R.assign rfl) rfl ?_; clear hA a; intro a hA
        refine S.done ?_
        replace hA : St 49 [(0, _), (1, _), (2, _), (3, _), (8, _), (9, _), (10, _)] a := hA.sub ((.cons rfl (.cons rfl (.cons rfl (.cons rfl (.cons rfl (.cons rfl (.cons rfl .nil))))))))
        refine Ends.retC2 (k := 0) Try.func36 Try.results36 hA hM rfl rfl rfl sz56 rfl ?_
        obtain ⟨rfl, rfl⟩ := gmk_kind hG (by omega)
        exact ⟨none, 0, none, 0, none, 0, rfl, ⟨IntSl.nil _, IntSl.nil _, RowsV.nil _⟩, Mem.trans0 hbs hM.nilL⟩
set_option maxRecDepth 100000 in
set_option maxHeartbeats 400000 in
theorem rnums (cn m s : Int) (hm : 0 ≤ m ∧ m ≤ 2147483647) (hcn : 0 ≤ cn ∧ cn ≤ 1000) (w : World) :
    Calls Try.prog 72 #[.int .i64 cn, .int .i64 m, .int .u64 s] w fun e w' => ∃ a c, e = .returned (.tuple #[.slice a (nmL s m idn cn.toNat).length c, .int .u64 (sd s cn.toNat)]) ∧ Mem w nof [own 3 1 (.slice a (((nmL s m idn cn.toNat)).length) c) (((nmL s m idn cn.toNat)).length) (((nmL s m idn cn.toNat)).map (Value.int .i64))] w' := by
  have hbs := Below.refl (B := w.heap.size) w
  have hM := Mem.start w
  refine Calls.of_ends (vs := [.int .i64 cn, .int .i64 m, .int .u64 s]) Try.func72 rfl Try.ntmps72 rfl ?_
  intro a hA
  replace hA : St 30 [(0, _), (1, _), (2, _)] a := hA
  refine Ends.seq ?_
  refine Ends.region ?_
  refine S.val hA (R.assign rfl) rfl ?_; clear hA a; intro a hA
  refine S.val hA (R.assign rfl) rfl ?_; clear hA a; intro a hA
  refine S.done ?_
  replace hA : St 30 [(0, _), (1, _), (2, _)] a := hA.sub ((.cons rfl (.cons rfl (.cons rfl .nil))))
  refine Ends.seq ?_
  refine Ends.region ?_
  refine S.val hA (R.assign rfl) rfl ?_; clear hA a; intro a hA
  refine S.done ?_
  replace hA : St 30 [(0, _), (1, _), (2, _), (8, _)] a := hA.sub ((.cons rfl (.cons rfl (.cons rfl (.cons rfl .nil)))))
  refine Ends.seq ?_
  refine Ends.seq ?_
  refine Ends.region ?_
  refine S.val hA (R.assign rfl) rfl ?_; clear hA a; intro a hA
  refine S.done ?_
  replace hA : St 30 [(0, _), (1, _), (2, _), (8, _), (9, _)] a := hA.sub ((.cons rfl (.cons rfl (.cons rfl (.cons rfl (.cons rfl .nil))))))
  refine Ends.block ?_
  replace hM := hM.ownNil 3 1
  replace hM : Mem _ _ [own 3 1 (.slice none (((nmL s m idn 0)).length) 0) (((nmL s m idn 0)).length) (((nmL s m idn 0)).map (Value.int .i64))] _ := hM
  refine Ends.loop (σ := Nat × Option Addr × Nat) (fun (k, ao, co) (a : Act) (wv : World) => St 30 [(0, .int .i64 cn), (1, .int .i64 m), (2, .int .u64 (sd s (k))), (8, .slice ao ((nmL s m idn k).length) co), (9, .int .i64 ((k : Int)))] a ∧ Mem w nof [own 3 1 (.slice ao (((nmL s m idn k)).length) co) (((nmL s m idn k)).length) (((nmL s m idn k)).map (Value.int .i64))] wv ∧ (k ≤ cn.toNat)) (fun (k, ao, co) => cn.toNat - k) ((0, none, 0)) ⟨hA.sub ((.cons rfl (.cons rfl (.cons rfl (.cons rfl (.cons rfl .nil)))))), hM, (Nat.zero_le _)⟩ ?_
  clear hA hM a
  rintro ⟨k, ao, co⟩ a w1 ⟨hA, hM, hk⟩ hNext
  refine Ends.seq ?_
  refine Ends.seq ?_
  refine Ends.region ?_
  refine S.val hA (R.move rfl) rfl ?_; clear hA a; intro a hA
  refine S.val hA (R.move rfl) rfl ?_; clear hA a; intro a hA
  refine S.val hA (R.lss rfl rfl) rfl ?_; clear hA a; intro a hA
  refine S.done ?_
  replace hA : St 30 [(0, _), (1, _), (2, _), (8, _), (9, _), (14, _)] a := hA.sub ((.cons rfl (.cons rfl (.cons rfl (.cons rfl (.cons rfl (.cons rfl .nil)))))))
  refine Ends.ite hA rfl (fun hc1 => ?_) (fun hc1 => ?_)
  ·
    refine Ends.skip ?_
    refine Ends.seq ?_
    refine Ends.block ?_
    refine Ends.seq ?_
    refine Ends.region ?_
    refine S.val hA (R.move rfl) rfl ?_; clear hA a; intro a hA
    refine S.val hA (R.move rfl) rfl ?_; clear hA a; intro a hA
    refine S.call hA (R.callF Try.func16 rfl rfl rfl) rfl (rdraw_in (sd s (k)) m hm.1 hm.2 _) ?_; clear hA a
    rintro e w2 ⟨rfl, rfl⟩
    refine ⟨.tuple #[.int .i64 (nm s m (k)), .int .u64 (sd s (k + 1))], rfl, fun a hA => ?_⟩
    refine S.val hA (R.move rfl) rfl ?_; clear hA a; intro a hA
    refine S.val hA (R.extract (v := .int .i64 (nm s m (k))) rfl rfl) rfl ?_; clear hA a; intro a hA
    refine S.val hA (R.extract (v := .int .u64 (sd s (k + 1))) rfl rfl) rfl ?_; clear hA a; intro a hA
    refine S.val hA (R.assign rfl) rfl ?_; clear hA a; intro a hA
    refine S.val hA (R.assign rfl) rfl ?_; clear hA a; intro a hA
    refine S.done ?_
    replace hA : St 30 [(0, _), (1, _), (8, _), (9, _), (10, _), (11, _)] a := hA.sub ((.cons rfl (.cons rfl (.cons rfl (.cons rfl (.cons rfl (.cons rfl .nil)))))))
    refine Ends.seq ?_
    refine Ends.region ?_
    refine S.val hA (R.move rfl) rfl ?_; clear hA a; intro a hA
    refine S.val hA (R.move rfl) rfl ?_; clear hA a; intro a hA
    refine S.buildSl (cells := #[.int .i64 (nm s m (k))]) hA hM Try.underlying40 info3 rfl rfl rfl rfl (by kernel_rfl) rfl ?_; clear hA hM a; intro b2 w3 hb3 hM a hA
    replace hM : Mem _ _ [pt b2 #[.int .i64 (nm s m (k))] 3, own 3 1 (.slice ao (((nmL s m idn k)).length) co) (((nmL s m idn k)).length) (((nmL s m idn k)).map (Value.int .i64))] _ := hM
    refine S.append (k := 1) (k2 := 0) hA hM rfl rfl Try.underlying40 info3 rfl rfl rfl rfl rfl rfl rfl rfl rfl (by first | omega | (show (_ + 1) * 8 ≤ 140737488355328; simp only [nmL_len]; omega) | (show (_ + 1) * 8 ≤ 140737488355328; omega) | (simp only [nmL_len]; unfold maxLen; omega) | (unfold maxLen; omega)) (by first | omega | (show (_ + 1) * 8 ≤ 140737488355328; simp only [nmL_len]; omega) | (show (_ + 1) * 8 ≤ 140737488355328; omega) | (simp only [nmL_len]; unfold maxLen; omega) | (unfold maxLen; omega)) rfl ?_; clear hA hM a; intro a4 c5 w4 hM a hA
    replace hM : Mem _ _ [pt b2 #[.int .i64 (nm s m (k))] 3, own 3 1 (.slice a4 ((((nmL s m idn k)).length) + 1) c5) ((((nmL s m idn k)).length) + 1) (((nmL s m idn k)).map (Value.int .i64) ++ [.int .i64 (nm s m (k))])] _ := hM
    have hl6 : (((nmL s m idn k)).length) + 1 = ((nmL s m idn k) ++ [nm s m (k)]).length := by simp
    rw [hl6, show ((nmL s m idn k)).map (Value.int .i64) ++ [.int .i64 (nm s m (k))] = ((nmL s m idn k) ++ [nm s m (k)]).map (Value.int .i64) by simp] at hM; rw [hl6] at hA
    clear hl6
    replace hM := hM.drop 0
    replace hM : Mem _ _ [own 3 1 (.slice a4 ((((nmL s m idn k) ++ [nm s m (k)])).length) c5) ((((nmL s m idn k) ++ [nm s m (k)])).length) ((((nmL s m idn k) ++ [nm s m (k)])).map (Value.int .i64))] _ := hM
    refine S.val hA (R.assign rfl) rfl ?_; clear hA a; intro a hA
    refine S.done ?_
    replace hA : St 30 [(0, _), (1, _), (8, _), (9, _), (11, _)] a := hA.sub ((.cons rfl (.cons rfl (.cons rfl (.cons rfl (.cons rfl .nil))))))
    refine Ends.region ?_
    refine S.val hA (R.move rfl) rfl ?_; clear hA a; intro a hA
    refine S.val hA (R.assign rfl) rfl ?_; clear hA a; intro a hA
    refine S.done ?_
    replace hA : St 30 [(0, _), (1, _), (2, _), (8, _), (9, _)] a := hA.sub ((.cons rfl (.cons rfl (.cons rfl (.cons rfl (.cons rfl .nil))))))
    refine Ends.inBlock ?_
    refine Ends.region ?_
    refine S.val hA (R.move rfl) rfl ?_; clear hA a; intro a hA
    refine S.val hA (R.addI rfl rfl (r := ((k : Int)) + 1) rfl (by omega)) rfl ?_; clear hA a; intro a hA
    refine S.val hA (R.assign rfl) rfl ?_; clear hA a; intro a hA
    refine S.done ?_
    replace hA : St 30 [(0, _), (1, _), (2, _), (8, _), (9, _)] a := hA.sub ((.cons rfl (.cons rfl (.cons rfl (.cons rfl (.cons rfl .nil))))))
    rw [show nmL s m idn k ++ [nm s m (k)] = nmL s m idn (k + 1) from nmL_succ s m idn k] at hM hA
    exact hNext ((k + 1, a4, c5)) _ _ ((by show cn.toNat - (k + 1) < cn.toNat - k; omega)) ⟨hA.sub ((.cons rfl (.cons rfl (.cons rfl (.cons rfl (.cons rfl .nil)))))), hM, (by omega)⟩
  ·
    obtain rfl : k = cn.toNat := by omega
    refine Ends.exit rfl ?_
    replace hA : St 30 [(2, _), (8, _)] a := hA.sub ((.cons rfl (.cons rfl .nil)))
    refine Ends.seq ?_
    refine Ends.region ?_
    refine S.val hA (R.move rfl) rfl ?_; clear hA a; intro a hA
    refine S.val hA (R.move rfl) rfl ?_; clear hA a; intro a hA
    refine S.val hA (R.assign rfl) rfl ?_; clear hA a; intro a hA
    refine S.val hA (R.assign rfl) rfl ?_; clear hA a; intro a hA
    refine S.done ?_
    replace hA : St 30 [(6, _), (7, _)] a := hA.sub ((.cons rfl (.cons rfl .nil)))
    refine Ends.ret2 Try.func72 Try.results72 hA rfl rfl ?_
    exact ⟨_, _, rfl, hM⟩
theorem rnums2 (n m s : Int) (hm : 0 ≤ m ∧ m ≤ 2147483647) (hn : 0 ≤ n ∧ n ≤ 500) (w : World) : Calls Try.prog 72 #[.int .i64 (2 * n), .int .i64 m, .int .u64 s] w fun e w' => ∃ a c, e = .returned (.tuple #[.slice a (nmL s m idn (2 * n.toNat)).length c, .int .u64 (sd s (2 * n.toNat))]) ∧ Mem w nof [own 3 1 (.slice a (((nmL s m idn (2 * n.toNat))).length) c) (((nmL s m idn (2 * n.toNat))).length) (((nmL s m idn (2 * n.toNat))).map (Value.int .i64))] w' := by
  have h := rnums (2 * n) m s hm (by omega) w
  rwa [show (2 * n).toNat = 2 * n.toNat by omega] at h
set_option maxRecDepth 100000 in
set_option maxHeartbeats 400000 in
theorem rMake (kd n m s : Int) (G : Ins) (er : Int) (hG : gmk kd n m s = (G, er)) (w : World) :
    Calls Try.prog 37 #[.int .i64 kd, .int .i64 n, .int .i64 m, .int .u64 s] w fun e w' => ∃ aw cw av cv ac cc, e = .returned (.tuple #[insG G aw cw av cv ac cc, .int .i64 er]) ∧ insR w' G aw cw av cv ac cc ∧ Below w.heap.size w w' := by
  have hbs := Below.refl (B := w.heap.size) w
  have hM := Mem.start w
  refine Calls.of_ends (vs := [.int .i64 kd, .int .i64 n, .int .i64 m, .int .u64 s]) Try.func37 rfl Try.ntmps37 rfl ?_
  intro a hA
  replace hA : St 139 [(0, _), (1, _), (2, _), (3, _)] a := hA
  refine Ends.seq ?_
  refine Ends.region ?_
  refine S.alloc hA hM info56 rfl rfl ?_; clear hA hM a; intro b1 w1 hb2 hM a hA
  replace hM : Mem _ _ [pt b1 #[.int .i64 0, .int .i64 0, .int .i64 0, .slice none 0 0, .slice none 0 0, .slice none 0 0] 56] _ := hM
  refine S.val hA (R.assign rfl) rfl ?_; clear hA a; intro a hA
  refine S.done ?_
  replace hA : St 139 [(0, _), (1, _), (2, _), (3, _), (8, _)] a := hA.sub ((.cons rfl (.cons rfl (.cons rfl (.cons rfl (.cons rfl .nil))))))
  refine Ends.seq ?_
  refine Ends.seq ?_
  refine Ends.cut (fun (a : Act) (wv : World) => St 139 [(0, .int .i64 kd), (1, .int .i64 n), (2, .int .i64 m), (3, .int .u64 s), (8, .pointer (some ⟨b1, 0, none⟩)), (25, .bool (decide ((kd < 1 ∨ 3 < kd))))] a ∧ Mem w nof [pt b1 #[.int .i64 0, .int .i64 0, .int .i64 0, .slice none 0 0, .slice none 0 0, .slice none 0 0] 56] wv) ?_ (fun k2 hJ => ?_)
  · clear hA hM a; rintro a w2 ⟨hA, hM⟩
    refine Ends.ite hA rfl (fun hc3 => ?_) (fun hc3 => ?_)
    ·
      rw [decide_eq_true hc3] at hA
      refine Ends.seq ?_
      refine Ends.region ?_
      refine S.val hA (R.build (cells := #[.int .i64 0, .int .i64 0, .int .i64 0, .slice none 0 0, .slice none 0 0, .slice none 0 0]) rfl (by kernel_rfl)) rfl ?_; clear hA a; intro a hA
      refine S.storeA (k := 0) hA hM sz56 rfl rfl rfl rfl rfl rfl ?_; clear hM
      intro w3 hM
      replace hM : Mem _ _ [pt b1 #[.int .i64 0, .int .i64 0, .int .i64 0, .slice none 0 0, .slice none 0 0, .slice none 0 0] 56] _ := hM
      refine S.val hA (R.assign rfl) rfl ?_; clear hA a; intro a hA
      refine S.done ?_
      replace hA : St 139 [(0, _), (1, _), (2, _), (3, _), (8, _), (9, _)] a := hA.sub ((.cons rfl (.cons rfl (.cons rfl (.cons rfl (.cons rfl (.cons rfl .nil)))))))
      refine Ends.retC2 (k := 0) Try.func37 Try.results37 hA hM rfl rfl rfl sz56 rfl ?_
      obtain ⟨rfl, rfl⟩ := gmk_kind hG (by omega)
      exact ⟨none, 0, none, 0, none, 0, rfl, ⟨IntSl.nil _, IntSl.nil _, RowsV.nil _⟩, Mem.trans0 hbs hM.nilL⟩
    ·
      rw [decide_eq_false hc3] at hA
      refine Ends.skip ?_
      refine Ends.seq ?_
      refine Ends.seq ?_
      refine Ends.cut (fun (a : Act) (wv : World) => St 139 [(0, .int .i64 kd), (1, .int .i64 n), (2, .int .i64 m), (3, .int .u64 s), (8, .pointer (some ⟨b1, 0, none⟩)), (36, .bool (decide (((n < 1 ∨ m < 0) ∨ 2147483647 < m))))] a ∧ Mem w nof [pt b1 #[.int .i64 0, .int .i64 0, .int .i64 0, .slice none 0 0, .slice none 0 0, .slice none 0 0] 56] wv) ?_ (fun k2 hJ => ?_)
      · clear hA hM a; rintro a w4 ⟨hA, hM⟩
        refine Ends.ite hA rfl (fun hc4 => ?_) (fun hc4 => ?_)
        ·
          rw [decide_eq_true hc4] at hA
          refine Ends.seq ?_
          refine Ends.region ?_
          refine S.val hA (R.build (cells := #[.int .i64 0, .int .i64 0, .int .i64 0, .slice none 0 0, .slice none 0 0, .slice none 0 0]) rfl (by kernel_rfl)) rfl ?_; clear hA a; intro a hA
          refine S.storeA (k := 0) hA hM sz56 rfl rfl rfl rfl rfl rfl ?_; clear hM
          intro w5 hM
          replace hM : Mem _ _ [pt b1 #[.int .i64 0, .int .i64 0, .int .i64 0, .slice none 0 0, .slice none 0 0, .slice none 0 0] 56] _ := hM
          refine S.val hA (R.assign rfl) rfl ?_; clear hA a; intro a hA
          refine S.done ?_
          replace hA : St 139 [(0, _), (1, _), (2, _), (3, _), (8, _), (9, _)] a := hA.sub ((.cons rfl (.cons rfl (.cons rfl (.cons rfl (.cons rfl (.cons rfl .nil)))))))
          refine Ends.retC2 (k := 0) Try.func37 Try.results37 hA hM rfl rfl rfl sz56 rfl ?_
          obtain ⟨rfl, rfl⟩ := gmk_arg hG (by omega) (by omega)
          exact ⟨none, 0, none, 0, none, 0, rfl, ⟨IntSl.nil _, IntSl.nil _, RowsV.nil _⟩, Mem.trans0 hbs hM.nilL⟩
        ·
          rw [decide_eq_false hc4] at hA
          refine Ends.skip ?_
          refine Ends.seq ?_
          refine Ends.seq ?_
          refine Ends.cut (fun (a : Act) (wv : World) => St 139 [(0, .int .i64 kd), (1, .int .i64 n), (2, .int .i64 m), (3, .int .u64 s), (8, .pointer (some ⟨b1, 0, none⟩)), (47, .bool (decide ((64 < n ∨ (1 < kd ∧ 24 < n)))))] a ∧ Mem w nof [pt b1 #[.int .i64 0, .int .i64 0, .int .i64 0, .slice none 0 0, .slice none 0 0, .slice none 0 0] 56] wv) ?_ (fun k2 hJ => ?_)
          · clear hA hM a; rintro a w6 ⟨hA, hM⟩
            refine Ends.ite hA rfl (fun hc5 => ?_) (fun hc5 => ?_)
            ·
              rw [decide_eq_true hc5] at hA
              refine Ends.seq ?_
              refine Ends.region ?_
              refine S.val hA (R.build (cells := #[.int .i64 0, .int .i64 0, .int .i64 0, .slice none 0 0, .slice none 0 0, .slice none 0 0]) rfl (by kernel_rfl)) rfl ?_; clear hA a; intro a hA
              refine S.storeA (k := 0) hA hM sz56 rfl rfl rfl rfl rfl rfl ?_; clear hM
              intro w7 hM
              replace hM : Mem _ _ [pt b1 #[.int .i64 0, .int .i64 0, .int .i64 0, .slice none 0 0, .slice none 0 0, .slice none 0 0] 56] _ := hM
              refine S.val hA (R.assign rfl) rfl ?_; clear hA a; intro a hA
              refine S.done ?_
              replace hA : St 139 [(0, _), (1, _), (2, _), (3, _), (8, _), (9, _)] a := hA.sub ((.cons rfl (.cons rfl (.cons rfl (.cons rfl (.cons rfl (.cons rfl .nil)))))))
              refine Ends.retC2 (k := 0) Try.func37 Try.results37 hA hM rfl rfl rfl sz56 rfl ?_
              obtain ⟨rfl, rfl⟩ := gmk_big hG (by omega) (by omega) (by omega)
              exact ⟨none, 0, none, 0, none, 0, rfl, ⟨IntSl.nil _, IntSl.nil _, RowsV.nil _⟩, Mem.trans0 hbs hM.nilL⟩
            ·
              rw [decide_eq_false hc5] at hA
              have hm : 0 ≤ m ∧ m ≤ 2147483647 := by omega
              refine Ends.skip ?_
              refine Ends.seq ?_
              refine Ends.region ?_
              refine S.val hA (R.move rfl) rfl ?_; clear hA a; intro a hA
              refine S.val hA (R.move rfl) rfl ?_; clear hA a; intro a hA
              refine S.val hA (R.build (cells := #[.int .i64 kd, .int .i64 n, .int .i64 0, .slice none 0 0, .slice none 0 0, .slice none 0 0]) rfl (by kernel_rfl)) rfl ?_; clear hA a; intro a hA
              refine S.alloc hA hM info56 rfl rfl ?_; clear hA hM a; intro b6 w8 hb7 hM a hA
              replace hM : Mem _ _ [pt b6 #[.int .i64 0, .int .i64 0, .int .i64 0, .slice none 0 0, .slice none 0 0, .slice none 0 0] 56, pt b1 #[.int .i64 0, .int .i64 0, .int .i64 0, .slice none 0 0, .slice none 0 0, .slice none 0 0] 56] _ := hM
              refine S.storeA (k := 0) hA hM sz56 rfl rfl rfl rfl rfl rfl ?_; clear hM
              intro w9 hM
              replace hM : Mem _ _ [pt b6 #[.int .i64 kd, .int .i64 n, .int .i64 0, .slice none 0 0, .slice none 0 0, .slice none 0 0] 56, pt b1 #[.int .i64 0, .int .i64 0, .int .i64 0, .slice none 0 0, .slice none 0 0, .slice none 0 0] 56] _ := hM
              refine S.done ?_
              replace hA : St 139 [(0, _), (1, _), (2, _), (3, _), (8, _), (10, _)] a := hA.sub ((.cons rfl (.cons rfl (.cons rfl (.cons rfl (.cons rfl (.cons rfl .nil)))))))
              refine Ends.seq ?_
              refine Ends.seq ?_
              refine Ends.region ?_
              refine S.val hA (R.move rfl) rfl ?_; clear hA a; intro a hA
              refine S.val hA (R.eql rfl rfl) rfl ?_; clear hA a; intro a hA
              refine S.done ?_
              replace hA : St 139 [(0, _), (1, _), (2, _), (3, _), (8, _), (10, _), (53, _)] a := hA.sub ((.cons rfl (.cons rfl (.cons rfl (.cons rfl (.cons rfl (.cons rfl (.cons rfl .nil))))))))
              refine Ends.ite hA rfl (fun hc8 => ?_) (fun hc8 => ?_)
              ·
                rw [decide_eq_true hc8] at hA
                refine Ends.seq ?_
                refine Ends.region ?_
                refine S.val hA (R.move rfl) rfl ?_; clear hA a; intro a hA
                refine S.val hA (R.mulI rfl rfl (r := 2 * n) rfl (by first | omega | (rw [nmL_len]; omega))) rfl ?_; clear hA a; intro a hA
                refine S.val hA (R.move rfl) rfl ?_; clear hA a; intro a hA
                refine S.val hA (R.move rfl) rfl ?_; clear hA a; intro a hA
                refine S.call hA (R.callF Try.func72 rfl rfl rfl) rfl (rnums2 n m s (by omega) (by omega) _) ?_; clear hA a
                rintro e w10 ⟨la, lc, rfl, hn⟩
                replace hM : Mem _ _ [own 3 1 (.slice la (((nmL s m idn (2 * n.toNat))).length) lc) (((nmL s m idn (2 * n.toNat))).length) (((nmL s m idn (2 * n.toNat))).map (Value.int .i64)), pt b6 #[.int .i64 kd, .int .i64 n, .int .i64 0, .slice none 0 0, .slice none 0 0, .slice none 0 0] 56, pt b1 #[.int .i64 0, .int .i64 0, .int .i64 0, .slice none 0 0, .slice none 0 0, .slice none 0 0] 56] _ := hM.call hn; clear hn
                refine ⟨.tuple #[.slice la ((nmL s m idn (2 * n.toNat)).length) lc, .int .u64 (sd s (2 * n.toNat))], rfl, fun a hA => ?_⟩
                refine S.val hA (R.move rfl) rfl ?_; clear hA a; intro a hA
                refine S.val hA (R.extract (v := .slice la ((nmL s m idn (2 * n.toNat)).length) lc) rfl rfl) rfl ?_; clear hA a; intro a hA
                refine S.val hA (R.extract (v := .int .u64 (sd s (2 * n.toNat))) rfl rfl) rfl ?_; clear hA a; intro a hA
                refine S.val hA (R.assign rfl) rfl ?_; clear hA a; intro a hA
                refine S.val hA (R.assign rfl) rfl ?_; clear hA a; intro a hA
                refine S.done ?_
                replace hA : St 139 [(0, _), (1, _), (2, _), (3, _), (8, _), (10, _), (11, _)] a := hA.sub ((.cons rfl (.cons rfl (.cons rfl (.cons rfl (.cons rfl (.cons rfl (.cons rfl .nil))))))))
                refine Ends.seq ?_
                refine Ends.region ?_
                refine S.val hA (R.assign rfl) rfl ?_; clear hA a; intro a hA
                refine S.done ?_
                replace hA : St 139 [(0, _), (1, _), (2, _), (3, _), (8, _), (10, _), (11, _), (13, _)] a := hA.sub ((.cons rfl (.cons rfl (.cons rfl (.cons rfl (.cons rfl (.cons rfl (.cons rfl (.cons rfl .nil)))))))))
                refine Ends.seq ?_
                refine Ends.seq ?_
                refine Ends.region ?_
                refine S.val hA (R.assign rfl) rfl ?_; clear hA a; intro a hA
                refine S.done ?_
                replace hA : St 139 [(0, _), (1, _), (2, _), (3, _), (8, _), (10, _), (11, _), (13, _), (14, _)] a := hA.sub ((.cons rfl (.cons rfl (.cons rfl (.cons rfl (.cons rfl (.cons rfl (.cons rfl (.cons rfl (.cons rfl .nil))))))))))
                refine Ends.block ?_
                replace hM := hM.front (k := 2) rfl
                replace hM := hM.front (k := 1) rfl
                replace hM := hM.front (k := 2) rfl
                replace hM := (hM.ownNil 3 1).ownNil 3 1
                have hM1 := ((hM.front (k := 2) rfl))
                replace hM : Mem _ _ [pt b6 #[.int .i64 kd, .int .i64 n, .int .i64 0, .slice none ((nmL s m evn 0).length) 0, .slice none ((nmL s m odd1 0).length) 0, .slice none 0 0] 56, own 3 1 (.slice none (((nmL s m evn 0)).length) 0) (((nmL s m evn 0)).length) (((nmL s m evn 0)).map (Value.int .i64)), own 3 1 (.slice none (((nmL s m odd1 0)).length) 0) (((nmL s m odd1 0)).length) (((nmL s m odd1 0)).map (Value.int .i64)), own 3 1 (.slice la (((nmL s m idn (2 * n.toNat))).length) lc) (((nmL s m idn (2 * n.toNat))).length) (((nmL s m idn (2 * n.toNat))).map (Value.int .i64)), pt b1 #[.int .i64 0, .int .i64 0, .int .i64 0, .slice none 0 0, .slice none 0 0, .slice none 0 0] 56] _ := hM1
                clear hM1
                refine Ends.loop (σ := Nat × Option Addr × Nat × Option Addr × Nat) (fun (k, aw, cw, av, cv) (a : Act) (wv : World) => St 139 [(0, .int .i64 kd), (1, .int .i64 n), (2, .int .i64 m), (3, .int .u64 s), (8, .pointer (some ⟨b1, 0, none⟩)), (10, .pointer (some ⟨b6, 0, none⟩)), (11, .slice la ((nmL s m idn (2 * n.toNat)).length) lc), (13, .int .i64 ((nmL s m evn k).sum)), (14, .int .i64 ((k : Int)))] a ∧ Mem w nof [pt b6 #[.int .i64 kd, .int .i64 n, .int .i64 0, .slice aw ((nmL s m evn k).length) cw, .slice av ((nmL s m odd1 k).length) cv, .slice none 0 0] 56, own 3 1 (.slice aw (((nmL s m evn k)).length) cw) (((nmL s m evn k)).length) (((nmL s m evn k)).map (Value.int .i64)), own 3 1 (.slice av (((nmL s m odd1 k)).length) cv) (((nmL s m odd1 k)).length) (((nmL s m odd1 k)).map (Value.int .i64)), own 3 1 (.slice la (((nmL s m idn (2 * n.toNat))).length) lc) (((nmL s m idn (2 * n.toNat))).length) (((nmL s m idn (2 * n.toNat))).map (Value.int .i64)), pt b1 #[.int .i64 0, .int .i64 0, .int .i64 0, .slice none 0 0, .slice none 0 0, .slice none 0 0] 56] wv ∧ (k ≤ n.toNat)) (fun (k, aw, cw, av, cv) => n.toNat - k) ((0, none, 0, none, 0)) ⟨hA.sub ((.cons rfl (.cons rfl (.cons rfl (.cons rfl (.cons rfl (.cons rfl (.cons rfl (.cons rfl (.cons rfl .nil)))))))))), hM, (Nat.zero_le _)⟩ ?_
                clear hA hM a
                rintro ⟨k, aw, cw, av, cv⟩ a w11 ⟨hA, hM, hk⟩ hNext
                refine Ends.seq ?_
                refine Ends.seq ?_
                refine Ends.region ?_
                refine S.val hA (R.move rfl) rfl ?_; clear hA a; intro a hA
                refine S.val hA (R.move rfl) rfl ?_; clear hA a; intro a hA
                refine S.val hA (R.lss rfl rfl) rfl ?_; clear hA a; intro a hA
                refine S.done ?_
                replace hA : St 139 [(0, _), (1, _), (2, _), (3, _), (8, _), (10, _), (11, _), (13, _), (14, _), (64, _)] a := hA.sub ((.cons rfl (.cons rfl (.cons rfl (.cons rfl (.cons rfl (.cons rfl (.cons rfl (.cons rfl (.cons rfl (.cons rfl .nil)))))))))))
                refine Ends.ite hA rfl (fun hc9 => ?_) (fun hc9 => ?_)
                ·
                  rw [decide_eq_true hc9] at hA
                  have hsm := nmL_sum s m evn hm k
                  have hb1 := nm_bd s m (2 * k) hm.1
                  refine Ends.skip ?_
                  refine Ends.seq ?_
                  refine Ends.block ?_
                  refine Ends.seq ?_
                  refine Ends.drawn (Mem w nof [pt b6 #[.int .i64 kd, .int .i64 n, .int .i64 0, .slice aw ((nmL s m evn k).length) cw, .slice av ((nmL s m odd1 k).length) cv, .slice none 0 0] 56, own 3 1 (.slice la (((nmL s m idn (2 * n.toNat))).length) lc) (((nmL s m idn (2 * n.toNat))).length) (((nmL s m idn (2 * n.toNat))).map (Value.int .i64)), pt b1 #[.int .i64 0, .int .i64 0, .int .i64 0, .slice none 0 0, .slice none 0 0, .slice none 0 0] 56]) (.cons (0, true) (.cons (1, true) (.cons (2, true) (.cons (3, true) (.cons (4, true) (.cons (5, true) (.cons (6, true) (.cons (9, true) (.cons (10, true) (.cons (11, true) (.cons (12, true) (.cons (13, true) (.cons (14, true) (.cons (15, true) (.fork 7 16 (.fork 8 16 (.cons (19, true) (.cons (16, false) (.cons (17, false) (.cons (18, false) (.cons (20, false) (.cons (21, true) (.cons (22, false) .nil))))))) (.fork 8 17 (.cons (19, true) (.cons (17, false) (.cons (18, false) (.cons (20, false) (.cons (21, true) (.cons (22, false) .nil)))))) (.cons (8, false) (.cons (19, true) (.cons (18, false) (.cons (20, false) (.cons (21, true) (.cons (22, false) .nil)))))))) (.fork 7 17 (.fork 8 17 (.cons (19, true) (.cons (17, false) (.cons (18, false) (.cons (20, false) (.cons (21, true) (.cons (22, false) .nil)))))) (.cons (8, false) (.cons (19, true) (.cons (18, false) (.cons (20, false) (.cons (21, true) (.cons (22, false) .nil))))))) (.cons (7, false) (.cons (8, false) (.cons (19, true) (.cons (18, false) (.cons (20, false) (.cons (21, true) (.cons (22, false) .nil))))))))))))))))))))))) 20 mixed (by kernel_rfl) (by kernel_rfl) (by kernel_rfl) ((hM.drop 2).drop 1).drew ?_
                  replace hM := hM.drew
                  refine D.valF hA rfl (fun _ => R.fieldAddr (q := 3) fi56_3 rfl rfl rfl) rfl ?_; clear hA a; intro a hA
                  refine D.val hA rfl (by kernel_rfl) (fun _ hM => R.load sz40 rfl (hM.cell (k := 0) rfl rfl)) rfl ?_; clear hA a; intro a hA
                  refine D.valF hA rfl (fun _ => R.move rfl) rfl ?_; clear hA a; intro a hA
                  refine D.valF hA rfl (fun _ => R.move rfl) rfl ?_; clear hA a; intro a hA
                  refine D.valF hA rfl (fun _ => R.mulI rfl rfl (r := 2 * ((k : Int))) rfl (by first | omega | (rw [nmL_len]; omega))) rfl ?_; clear hA a; intro a hA
                  refine D.valF hA rfl (fun _ => R.idxI (hM.rsl (k := 3) rfl) (j := 2 * k) sl40 rfl rfl (by first | omega | (rw [nmL_len]; omega)) (by first | omega | (rw [nmL_len]; omega))) rfl ?_; clear hA a; intro a hA
                  refine D.val hA rfl (by kernel_rfl) (fun _ hM => R.to (v := .int .i64 (nm s m (2 * k))) (R.loadI (hM.rsl (k := 1) rfl) sz3 rfl (by rw [nmL_len]; omega)) (congrArg (Value.int .i64) (nmL_get s m idn (by omega)))) rfl ?_; clear hA a; intro a hA
                  refine D.valF hA rfl (fun _ => R.fieldAddr (q := 4) fi56_4 rfl rfl rfl) rfl ?_; clear hA a; intro a hA
                  refine D.val hA rfl (by kernel_rfl) (fun _ hM => R.load sz40 rfl (hM.cell (k := 0) rfl rfl)) rfl ?_; clear hA a; intro a hA
                  refine D.valF hA rfl (fun _ => R.move rfl) rfl ?_; clear hA a; intro a hA
                  refine D.valF hA rfl (fun _ => R.move rfl) rfl ?_; clear hA a; intro a hA
                  refine D.valF hA rfl (fun _ => R.mulI rfl rfl (r := 2 * ((k : Int))) rfl (by first | omega | (rw [nmL_len]; omega))) rfl ?_; clear hA a; intro a hA
                  refine D.valF hA rfl (fun _ => R.addI rfl rfl (r := (2 * ((k : Int))) + 1) rfl (by first | omega | (rw [nmL_len]; omega))) rfl ?_; clear hA a; intro a hA
                  refine D.valF hA rfl (fun _ => R.idxI (hM.rsl (k := 3) rfl) (j := 2 * k + 1) sl40 rfl rfl (by first | omega | (rw [nmL_len]; omega)) (by first | omega | (rw [nmL_len]; omega))) rfl ?_; clear hA a; intro a hA
                  refine D.fork rfl rfl ?_ ?_
                  ·
                    refine D.buildSl (cells := #[.int .i64 (nm s m (2 * k))]) hA hM rfl Try.underlying40 info3 rfl rfl rfl rfl (by kernel_rfl) rfl ?_; clear hA hM a; intro b10 w12 hb11 hM; refine ⟨(fun hM => ((hM.drop 2).drop 1)) hM.tail, fun a hA => ?_⟩
                    replace hM : Mem _ _ [pt b10 #[.int .i64 (nm s m (2 * k))] 3, pt b6 #[.int .i64 kd, .int .i64 n, .int .i64 0, .slice aw ((nmL s m evn k).length) cw, .slice av ((nmL s m odd1 k).length) cv, .slice none 0 0] 56, own 3 1 (.slice aw (((nmL s m evn k)).length) cw) (((nmL s m evn k)).length) (((nmL s m evn k)).map (Value.int .i64)), own 3 1 (.slice av (((nmL s m odd1 k)).length) cv) (((nmL s m odd1 k)).length) (((nmL s m odd1 k)).map (Value.int .i64)), own 3 1 (.slice la (((nmL s m idn (2 * n.toNat))).length) lc) (((nmL s m idn (2 * n.toNat))).length) (((nmL s m idn (2 * n.toNat))).map (Value.int .i64)), pt b1 #[.int .i64 0, .int .i64 0, .int .i64 0, .slice none 0 0, .slice none 0 0, .slice none 0 0] 56] _ := hM
                    refine D.fork rfl rfl ?_ ?_
                    ·
                      refine D.append (k := 2) (k2 := 0) hA hM rfl rfl rfl Try.underlying40 info3 rfl rfl rfl rfl rfl rfl rfl rfl rfl (by first | omega | (simp only [nmL_len, rowF_len]; show (_ + 1) * 8 ≤ 140737488355328; omega) | (simp only [nmL_len, rowF_len]; unfold maxLen; omega) | (show (_ + 1) * 24 ≤ 140737488355328; omega) | (unfold maxLen; omega)) (by first | omega | (simp only [nmL_len, rowF_len]; show (_ + 1) * 8 ≤ 140737488355328; omega) | (simp only [nmL_len, rowF_len]; unfold maxLen; omega) | (show (_ + 1) * 24 ≤ 140737488355328; omega) | (unfold maxLen; omega)) rfl ?_; clear hA hM a; intro a12 c13 w13 hM
                      replace hM : Mem _ _ [pt b10 #[.int .i64 (nm s m (2 * k))] 3, pt b6 #[.int .i64 kd, .int .i64 n, .int .i64 0, .slice aw ((nmL s m evn k).length) cw, .slice av ((nmL s m odd1 k).length) cv, .slice none 0 0] 56, own 3 1 (.slice a12 ((((nmL s m evn k)).length) + 1) c13) ((((nmL s m evn k)).length) + 1) (((nmL s m evn k)).map (Value.int .i64) ++ [.int .i64 (nm s m (2 * k))]), own 3 1 (.slice av (((nmL s m odd1 k)).length) cv) (((nmL s m odd1 k)).length) (((nmL s m odd1 k)).map (Value.int .i64)), own 3 1 (.slice la (((nmL s m idn (2 * n.toNat))).length) lc) (((nmL s m idn (2 * n.toNat))).length) (((nmL s m idn (2 * n.toNat))).map (Value.int .i64)), pt b1 #[.int .i64 0, .int .i64 0, .int .i64 0, .slice none 0 0, .slice none 0 0, .slice none 0 0] 56] _ := hM
                      have hl14 : (((nmL s m evn k)).length) + 1 = ((nmL s m evn k) ++ [nm s m (2 * k)]).length := by simp
                      rw [hl14, show ((nmL s m evn k)).map (Value.int .i64) ++ [.int .i64 (nm s m (2 * k))] = ((nmL s m evn k) ++ [nm s m (2 * k)]).map (Value.int .i64) by simp] at hM
                      replace hM := hM.drop 0
                      replace hM : Mem _ _ [pt b6 #[.int .i64 kd, .int .i64 n, .int .i64 0, .slice aw ((nmL s m evn k).length) cw, .slice av ((nmL s m odd1 k).length) cv, .slice none 0 0] 56, own 3 1 (.slice a12 ((((nmL s m evn k) ++ [nm s m (2 * k)])).length) c13) ((((nmL s m evn k) ++ [nm s m (2 * k)])).length) ((((nmL s m evn k) ++ [nm s m (2 * k)])).map (Value.int .i64)), own 3 1 (.slice av (((nmL s m odd1 k)).length) cv) (((nmL s m odd1 k)).length) (((nmL s m odd1 k)).map (Value.int .i64)), own 3 1 (.slice la (((nmL s m idn (2 * n.toNat))).length) lc) (((nmL s m idn (2 * n.toNat))).length) (((nmL s m idn (2 * n.toNat))).map (Value.int .i64)), pt b1 #[.int .i64 0, .int .i64 0, .int .i64 0, .slice none 0 0, .slice none 0 0, .slice none 0 0] 56] _ := hM
                      refine ⟨((hM.drop 2).drop 1), fun a hA => ?_⟩; rw [hl14] at hA; clear hl14
                      refine D.valF hA rfl (fun _ => R.fieldAddr (q := 3) fi56_3 rfl rfl rfl) rfl ?_; clear hA a; intro a hA
                      refine D.eff hA rfl (R.to (v := .int .i64 (nm s m (2 * k + 1))) (R.loadI (hM.rsl (k := 3) rfl) sz3 rfl (by rw [nmL_len]; omega)) (congrArg (Value.int .i64) (nmL_get s m idn (by omega)))) rfl ((hM.drop 2).drop 1) ?_; clear hA a; intro a hA
                      refine D.buildSl (cells := #[.int .i64 (nm s m (2 * k + 1))]) hA hM rfl Try.underlying40 info3 rfl rfl rfl rfl (by kernel_rfl) rfl ?_; clear hA hM a; intro b15 w14 hb16 hM; refine ⟨(fun hM => ((hM.drop 2).drop 1)) hM.tail, fun a hA => ?_⟩
                      replace hM : Mem _ _ [pt b15 #[.int .i64 (nm s m (2 * k + 1))] 3, pt b6 #[.int .i64 kd, .int .i64 n, .int .i64 0, .slice aw ((nmL s m evn k).length) cw, .slice av ((nmL s m odd1 k).length) cv, .slice none 0 0] 56, own 3 1 (.slice a12 ((((nmL s m evn k) ++ [nm s m (2 * k)])).length) c13) ((((nmL s m evn k) ++ [nm s m (2 * k)])).length) ((((nmL s m evn k) ++ [nm s m (2 * k)])).map (Value.int .i64)), own 3 1 (.slice av (((nmL s m odd1 k)).length) cv) (((nmL s m odd1 k)).length) (((nmL s m odd1 k)).map (Value.int .i64)), own 3 1 (.slice la (((nmL s m idn (2 * n.toNat))).length) lc) (((nmL s m idn (2 * n.toNat))).length) (((nmL s m idn (2 * n.toNat))).map (Value.int .i64)), pt b1 #[.int .i64 0, .int .i64 0, .int .i64 0, .slice none 0 0, .slice none 0 0, .slice none 0 0] 56] _ := hM
                      refine D.append (k := 3) (k2 := 0) hA hM rfl rfl rfl Try.underlying40 info3 rfl rfl rfl rfl rfl rfl rfl rfl rfl (by first | omega | (simp only [nmL_len, rowF_len]; show (_ + 1) * 8 ≤ 140737488355328; omega) | (simp only [nmL_len, rowF_len]; unfold maxLen; omega) | (show (_ + 1) * 24 ≤ 140737488355328; omega) | (unfold maxLen; omega)) (by first | omega | (simp only [nmL_len, rowF_len]; show (_ + 1) * 8 ≤ 140737488355328; omega) | (simp only [nmL_len, rowF_len]; unfold maxLen; omega) | (show (_ + 1) * 24 ≤ 140737488355328; omega) | (unfold maxLen; omega)) rfl ?_; clear hA hM a; intro a17 c18 w15 hM
                      replace hM : Mem _ _ [pt b15 #[.int .i64 (nm s m (2 * k + 1))] 3, pt b6 #[.int .i64 kd, .int .i64 n, .int .i64 0, .slice aw ((nmL s m evn k).length) cw, .slice av ((nmL s m odd1 k).length) cv, .slice none 0 0] 56, own 3 1 (.slice a12 ((((nmL s m evn k) ++ [nm s m (2 * k)])).length) c13) ((((nmL s m evn k) ++ [nm s m (2 * k)])).length) ((((nmL s m evn k) ++ [nm s m (2 * k)])).map (Value.int .i64)), own 3 1 (.slice a17 ((((nmL s m odd1 k)).length) + 1) c18) ((((nmL s m odd1 k)).length) + 1) (((nmL s m odd1 k)).map (Value.int .i64) ++ [.int .i64 (nm s m (2 * k + 1))]), own 3 1 (.slice la (((nmL s m idn (2 * n.toNat))).length) lc) (((nmL s m idn (2 * n.toNat))).length) (((nmL s m idn (2 * n.toNat))).map (Value.int .i64)), pt b1 #[.int .i64 0, .int .i64 0, .int .i64 0, .slice none 0 0, .slice none 0 0, .slice none 0 0] 56] _ := hM
                      have hl19 : (((nmL s m odd1 k)).length) + 1 = ((nmL s m odd1 k) ++ [nm s m (2 * k + 1)]).length := by simp
                      rw [hl19, show ((nmL s m odd1 k)).map (Value.int .i64) ++ [.int .i64 (nm s m (2 * k + 1))] = ((nmL s m odd1 k) ++ [nm s m (2 * k + 1)]).map (Value.int .i64) by simp] at hM
                      replace hM := hM.drop 0
                      replace hM : Mem _ _ [pt b6 #[.int .i64 kd, .int .i64 n, .int .i64 0, .slice aw ((nmL s m evn k).length) cw, .slice av ((nmL s m odd1 k).length) cv, .slice none 0 0] 56, own 3 1 (.slice a12 ((((nmL s m evn k) ++ [nm s m (2 * k)])).length) c13) ((((nmL s m evn k) ++ [nm s m (2 * k)])).length) ((((nmL s m evn k) ++ [nm s m (2 * k)])).map (Value.int .i64)), own 3 1 (.slice a17 ((((nmL s m odd1 k) ++ [nm s m (2 * k + 1)])).length) c18) ((((nmL s m odd1 k) ++ [nm s m (2 * k + 1)])).length) ((((nmL s m odd1 k) ++ [nm s m (2 * k + 1)])).map (Value.int .i64)), own 3 1 (.slice la (((nmL s m idn (2 * n.toNat))).length) lc) (((nmL s m idn (2 * n.toNat))).length) (((nmL s m idn (2 * n.toNat))).map (Value.int .i64)), pt b1 #[.int .i64 0, .int .i64 0, .int .i64 0, .slice none 0 0, .slice none 0 0, .slice none 0 0] 56] _ := hM
                      refine ⟨((hM.drop 2).drop 1), fun a hA => ?_⟩; rw [hl19] at hA; clear hl19
                      refine D.store (k := 0) hA hM rfl sz40 rfl rfl rfl rfl rfl ?_; clear hM
                      intro w16 hM; refine ⟨fun _ hne => absurd rfl hne, ?_⟩
                      replace hM : Mem _ _ [pt b6 #[.int .i64 kd, .int .i64 n, .int .i64 0, .slice a12 ((((nmL s m evn k) ++ [nm s m (2 * k)])).length) c13, .slice av ((nmL s m odd1 k).length) cv, .slice none 0 0] 56, own 3 1 (.slice a12 ((((nmL s m evn k) ++ [nm s m (2 * k)])).length) c13) ((((nmL s m evn k) ++ [nm s m (2 * k)])).length) ((((nmL s m evn k) ++ [nm s m (2 * k)])).map (Value.int .i64)), own 3 1 (.slice a17 ((((nmL s m odd1 k) ++ [nm s m (2 * k + 1)])).length) c18) ((((nmL s m odd1 k) ++ [nm s m (2 * k + 1)])).length) ((((nmL s m odd1 k) ++ [nm s m (2 * k + 1)])).map (Value.int .i64)), own 3 1 (.slice la (((nmL s m idn (2 * n.toNat))).length) lc) (((nmL s m idn (2 * n.toNat))).length) (((nmL s m idn (2 * n.toNat))).map (Value.int .i64)), pt b1 #[.int .i64 0, .int .i64 0, .int .i64 0, .slice none 0 0, .slice none 0 0, .slice none 0 0] 56] _ := hM
                      refine D.valF hA rfl (fun _ => R.fieldAddr (q := 4) fi56_4 rfl rfl rfl) rfl ?_; clear hA a; intro a hA
                      refine D.store (k := 0) hA hM rfl sz40 rfl rfl rfl rfl rfl ?_; clear hM
                      intro w17 hM; refine ⟨fun hb0 => absurd hb0 (by decide), ?_⟩
                      replace hM : Mem _ _ [pt b6 #[.int .i64 kd, .int .i64 n, .int .i64 0, .slice a12 ((((nmL s m evn k) ++ [nm s m (2 * k)])).length) c13, .slice a17 ((((nmL s m odd1 k) ++ [nm s m (2 * k + 1)])).length) c18, .slice none 0 0] 56, own 3 1 (.slice a12 ((((nmL s m evn k) ++ [nm s m (2 * k)])).length) c13) ((((nmL s m evn k) ++ [nm s m (2 * k)])).length) ((((nmL s m evn k) ++ [nm s m (2 * k)])).map (Value.int .i64)), own 3 1 (.slice a17 ((((nmL s m odd1 k) ++ [nm s m (2 * k + 1)])).length) c18) ((((nmL s m odd1 k) ++ [nm s m (2 * k + 1)])).length) ((((nmL s m odd1 k) ++ [nm s m (2 * k + 1)])).map (Value.int .i64)), own 3 1 (.slice la (((nmL s m idn (2 * n.toNat))).length) lc) (((nmL s m idn (2 * n.toNat))).length) (((nmL s m idn (2 * n.toNat))).map (Value.int .i64)), pt b1 #[.int .i64 0, .int .i64 0, .int .i64 0, .slice none 0 0, .slice none 0 0, .slice none 0 0] 56] _ := hM
                      refine D.done ?_
                      replace hA : St 139 [(0, _), (1, _), (2, _), (3, _), (8, _), (10, _), (11, _), (13, _), (14, _)] a := hA.sub ((.cons rfl (.cons rfl (.cons rfl (.cons rfl (.cons rfl (.cons rfl (.cons rfl (.cons rfl (.cons rfl .nil))))))))))
                      refine Ends.region ?_
                      refine S.val hA (R.move rfl) rfl ?_; clear hA a; intro a hA
                      refine S.val hA (R.move rfl) rfl ?_; clear hA a; intro a hA
                      refine S.val hA (R.move rfl) rfl ?_; clear hA a; intro a hA
                      refine S.val hA (R.mulI rfl rfl (r := 2 * ((k : Int))) rfl (by first | omega | (rw [nmL_len]; omega))) rfl ?_; clear hA a; intro a hA
                      refine S.val hA (R.idxI (hM.rsl (k := 3) rfl) (j := 2 * k) sl40 rfl rfl (by first | omega | (rw [nmL_len]; omega)) (by first | omega | (rw [nmL_len]; omega))) rfl ?_; clear hA a; intro a hA
                      refine S.val hA (R.to (v := .int .i64 (nm s m (2 * k))) (R.loadI (hM.rsl (k := 3) rfl) sz3 rfl (by rw [nmL_len]; omega)) (congrArg (Value.int .i64) (nmL_get s m idn (by omega)))) rfl ?_; clear hA a; intro a hA
                      refine S.val hA (R.addI rfl rfl (r := ((nmL s m evn k).sum) + (nm s m (2 * k))) rfl (by first | omega | (rw [nmL_len]; omega))) rfl ?_; clear hA a; intro a hA
                      refine S.val hA (R.assign rfl) rfl ?_; clear hA a; intro a hA
                      refine S.done ?_
                      replace hA : St 139 [(0, _), (1, _), (2, _), (3, _), (8, _), (10, _), (11, _), (13, _), (14, _)] a := hA.sub ((.cons rfl (.cons rfl (.cons rfl (.cons rfl (.cons rfl (.cons rfl (.cons rfl (.cons rfl (.cons rfl .nil))))))))))
                      refine Ends.inBlock ?_
                      refine Ends.region ?_
                      refine S.val hA (R.move rfl) rfl ?_; clear hA a; intro a hA
                      refine S.val hA (R.addI rfl rfl (r := ((k : Int)) + 1) rfl (by first | omega | (rw [nmL_len]; omega))) rfl ?_; clear hA a; intro a hA
                      refine S.val hA (R.assign rfl) rfl ?_; clear hA a; intro a hA
                      refine S.done ?_
                      replace hA : St 139 [(0, _), (1, _), (2, _), (3, _), (8, _), (10, _), (11, _), (13, _), (14, _)] a := hA.sub ((.cons rfl (.cons rfl (.cons rfl (.cons rfl (.cons rfl (.cons rfl (.cons rfl (.cons rfl (.cons rfl .nil))))))))))
                      rw [show nmL s m evn k ++ [nm s m (2 * k)] = nmL s m evn (k + 1) from nmL_succ s m evn k, show nmL s m odd1 k ++ [nm s m (2 * k + 1)] = nmL s m odd1 (k + 1) from nmL_succ s m odd1 k] at hM
                      rw [show (nmL s m evn k).sum + nm s m (2 * k) = (nmL s m evn (k + 1)).sum from (nmL_sumS s m evn k).symm] at hA
                      replace hM := hM.front (k := 4) rfl
                      replace hM := hM.front (k := 4) rfl
                      replace hM := hM.front (k := 4) rfl
                      replace hM := hM.front (k := 4) rfl
                      replace hM := hM.front (k := 4) rfl
                      replace hM := hM.firstN 5
                      exact hNext ((k + 1, a12, c13, a17, c18)) _ _ ((by show n.toNat - (k + 1) < n.toNat - k; omega)) ⟨hA.sub ((.cons rfl (.cons rfl (.cons rfl (.cons rfl (.cons rfl (.cons rfl (.cons rfl (.cons rfl (.cons rfl .nil)))))))))), hM, (by omega)⟩
                    ·
                      refine D.eff hA rfl (R.to (v := .int .i64 (nm s m (2 * k + 1))) (R.loadI (hM.rsl (k := 4) rfl) sz3 rfl (by rw [nmL_len]; omega)) (congrArg (Value.int .i64) (nmL_get s m idn (by omega)))) rfl (((hM.drop 3).drop 2).drop 0) ?_; clear hA a; intro a hA
                      refine D.fork rfl rfl ?_ ?_
                      ·
                        refine D.append (k := 2) (k2 := 0) hA hM rfl rfl rfl Try.underlying40 info3 rfl rfl rfl rfl rfl rfl rfl rfl rfl (by first | omega | (simp only [nmL_len, rowF_len]; show (_ + 1) * 8 ≤ 140737488355328; omega) | (simp only [nmL_len, rowF_len]; unfold maxLen; omega) | (show (_ + 1) * 24 ≤ 140737488355328; omega) | (unfold maxLen; omega)) (by first | omega | (simp only [nmL_len, rowF_len]; show (_ + 1) * 8 ≤ 140737488355328; omega) | (simp only [nmL_len, rowF_len]; unfold maxLen; omega) | (show (_ + 1) * 24 ≤ 140737488355328; omega) | (unfold maxLen; omega)) rfl ?_; clear hA hM a; intro a20 c21 w18 hM
                        replace hM : Mem _ _ [pt b10 #[.int .i64 (nm s m (2 * k))] 3, pt b6 #[.int .i64 kd, .int .i64 n, .int .i64 0, .slice aw ((nmL s m evn k).length) cw, .slice av ((nmL s m odd1 k).length) cv, .slice none 0 0] 56, own 3 1 (.slice a20 ((((nmL s m evn k)).length) + 1) c21) ((((nmL s m evn k)).length) + 1) (((nmL s m evn k)).map (Value.int .i64) ++ [.int .i64 (nm s m (2 * k))]), own 3 1 (.slice av (((nmL s m odd1 k)).length) cv) (((nmL s m odd1 k)).length) (((nmL s m odd1 k)).map (Value.int .i64)), own 3 1 (.slice la (((nmL s m idn (2 * n.toNat))).length) lc) (((nmL s m idn (2 * n.toNat))).length) (((nmL s m idn (2 * n.toNat))).map (Value.int .i64)), pt b1 #[.int .i64 0, .int .i64 0, .int .i64 0, .slice none 0 0, .slice none 0 0, .slice none 0 0] 56] _ := hM
                        have hl22 : (((nmL s m evn k)).length) + 1 = ((nmL s m evn k) ++ [nm s m (2 * k)]).length := by simp
                        rw [hl22, show ((nmL s m evn k)).map (Value.int .i64) ++ [.int .i64 (nm s m (2 * k))] = ((nmL s m evn k) ++ [nm s m (2 * k)]).map (Value.int .i64) by simp] at hM
                        replace hM := hM.drop 0
                        replace hM : Mem _ _ [pt b6 #[.int .i64 kd, .int .i64 n, .int .i64 0, .slice aw ((nmL s m evn k).length) cw, .slice av ((nmL s m odd1 k).length) cv, .slice none 0 0] 56, own 3 1 (.slice a20 ((((nmL s m evn k) ++ [nm s m (2 * k)])).length) c21) ((((nmL s m evn k) ++ [nm s m (2 * k)])).length) ((((nmL s m evn k) ++ [nm s m (2 * k)])).map (Value.int .i64)), own 3 1 (.slice av (((nmL s m odd1 k)).length) cv) (((nmL s m odd1 k)).length) (((nmL s m odd1 k)).map (Value.int .i64)), own 3 1 (.slice la (((nmL s m idn (2 * n.toNat))).length) lc) (((nmL s m idn (2 * n.toNat))).length) (((nmL s m idn (2 * n.toNat))).map (Value.int .i64)), pt b1 #[.int .i64 0, .int .i64 0, .int .i64 0, .slice none 0 0, .slice none 0 0, .slice none 0 0] 56] _ := hM
                        refine ⟨((hM.drop 2).drop 1), fun a hA => ?_⟩; rw [hl22] at hA; clear hl22
                        refine D.valF hA rfl (fun _ => R.fieldAddr (q := 3) fi56_3 rfl rfl rfl) rfl ?_; clear hA a; intro a hA
                        refine D.buildSl (cells := #[.int .i64 (nm s m (2 * k + 1))]) hA hM rfl Try.underlying40 info3 rfl rfl rfl rfl (by kernel_rfl) rfl ?_; clear hA hM a; intro b23 w19 hb24 hM; refine ⟨(fun hM => ((hM.drop 2).drop 1)) hM.tail, fun a hA => ?_⟩
                        replace hM : Mem _ _ [pt b23 #[.int .i64 (nm s m (2 * k + 1))] 3, pt b6 #[.int .i64 kd, .int .i64 n, .int .i64 0, .slice aw ((nmL s m evn k).length) cw, .slice av ((nmL s m odd1 k).length) cv, .slice none 0 0] 56, own 3 1 (.slice a20 ((((nmL s m evn k) ++ [nm s m (2 * k)])).length) c21) ((((nmL s m evn k) ++ [nm s m (2 * k)])).length) ((((nmL s m evn k) ++ [nm s m (2 * k)])).map (Value.int .i64)), own 3 1 (.slice av (((nmL s m odd1 k)).length) cv) (((nmL s m odd1 k)).length) (((nmL s m odd1 k)).map (Value.int .i64)), own 3 1 (.slice la (((nmL s m idn (2 * n.toNat))).length) lc) (((nmL s m idn (2 * n.toNat))).length) (((nmL s m idn (2 * n.toNat))).map (Value.int .i64)), pt b1 #[.int .i64 0, .int .i64 0, .int .i64 0, .slice none 0 0, .slice none 0 0, .slice none 0 0] 56] _ := hM
                        refine D.append (k := 3) (k2 := 0) hA hM rfl rfl rfl Try.underlying40 info3 rfl rfl rfl rfl rfl rfl rfl rfl rfl (by first | omega | (simp only [nmL_len, rowF_len]; show (_ + 1) * 8 ≤ 140737488355328; omega) | (simp only [nmL_len, rowF_len]; unfold maxLen; omega) | (show (_ + 1) * 24 ≤ 140737488355328; omega) | (unfold maxLen; omega)) (by first | omega | (simp only [nmL_len, rowF_len]; show (_ + 1) * 8 ≤ 140737488355328; omega) | (simp only [nmL_len, rowF_len]; unfold maxLen; omega) | (show (_ + 1) * 24 ≤ 140737488355328; omega) | (unfold maxLen; omega)) rfl ?_; clear hA hM a; intro a25 c26 w20 hM
                        replace hM : Mem _ _ [pt b23 #[.int .i64 (nm s m (2 * k + 1))] 3, pt b6 #[.int .i64 kd, .int .i64 n, .int .i64 0, .slice aw ((nmL s m evn k).length) cw, .slice av ((nmL s m odd1 k).length) cv, .slice none 0 0] 56, own 3 1 (.slice a20 ((((nmL s m evn k) ++ [nm s m (2 * k)])).length) c21) ((((nmL s m evn k) ++ [nm s m (2 * k)])).length) ((((nmL s m evn k) ++ [nm s m (2 * k)])).map (Value.int .i64)), own 3 1 (.slice a25 ((((nmL s m odd1 k)).length) + 1) c26) ((((nmL s m odd1 k)).length) + 1) (((nmL s m odd1 k)).map (Value.int .i64) ++ [.int .i64 (nm s m (2 * k + 1))]), own 3 1 (.slice la (((nmL s m idn (2 * n.toNat))).length) lc) (((nmL s m idn (2 * n.toNat))).length) (((nmL s m idn (2 * n.toNat))).map (Value.int .i64)), pt b1 #[.int .i64 0, .int .i64 0, .int .i64 0, .slice none 0 0, .slice none 0 0, .slice none 0 0] 56] _ := hM
                        have hl27 : (((nmL s m odd1 k)).length) + 1 = ((nmL s m odd1 k) ++ [nm s m (2 * k + 1)]).length := by simp
                        rw [hl27, show ((nmL s m odd1 k)).map (Value.int .i64) ++ [.int .i64 (nm s m (2 * k + 1))] = ((nmL s m odd1 k) ++ [nm s m (2 * k + 1)]).map (Value.int .i64) by simp] at hM
                        replace hM := hM.drop 0
                        replace hM : Mem _ _ [pt b6 #[.int .i64 kd, .int .i64 n, .int .i64 0, .slice aw ((nmL s m evn k).length) cw, .slice av ((nmL s m odd1 k).length) cv, .slice none 0 0] 56, own 3 1 (.slice a20 ((((nmL s m evn k) ++ [nm s m (2 * k)])).length) c21) ((((nmL s m evn k) ++ [nm s m (2 * k)])).length) ((((nmL s m evn k) ++ [nm s m (2 * k)])).map (Value.int .i64)), own 3 1 (.slice a25 ((((nmL s m odd1 k) ++ [nm s m (2 * k + 1)])).length) c26) ((((nmL s m odd1 k) ++ [nm s m (2 * k + 1)])).length) ((((nmL s m odd1 k) ++ [nm s m (2 * k + 1)])).map (Value.int .i64)), own 3 1 (.slice la (((nmL s m idn (2 * n.toNat))).length) lc) (((nmL s m idn (2 * n.toNat))).length) (((nmL s m idn (2 * n.toNat))).map (Value.int .i64)), pt b1 #[.int .i64 0, .int .i64 0, .int .i64 0, .slice none 0 0, .slice none 0 0, .slice none 0 0] 56] _ := hM
                        refine ⟨((hM.drop 2).drop 1), fun a hA => ?_⟩; rw [hl27] at hA; clear hl27
                        refine D.store (k := 0) hA hM rfl sz40 rfl rfl rfl rfl rfl ?_; clear hM
                        intro w21 hM; refine ⟨fun _ hne => absurd rfl hne, ?_⟩
                        replace hM : Mem _ _ [pt b6 #[.int .i64 kd, .int .i64 n, .int .i64 0, .slice a20 ((((nmL s m evn k) ++ [nm s m (2 * k)])).length) c21, .slice av ((nmL s m odd1 k).length) cv, .slice none 0 0] 56, own 3 1 (.slice a20 ((((nmL s m evn k) ++ [nm s m (2 * k)])).length) c21) ((((nmL s m evn k) ++ [nm s m (2 * k)])).length) ((((nmL s m evn k) ++ [nm s m (2 * k)])).map (Value.int .i64)), own 3 1 (.slice a25 ((((nmL s m odd1 k) ++ [nm s m (2 * k + 1)])).length) c26) ((((nmL s m odd1 k) ++ [nm s m (2 * k + 1)])).length) ((((nmL s m odd1 k) ++ [nm s m (2 * k + 1)])).map (Value.int .i64)), own 3 1 (.slice la (((nmL s m idn (2 * n.toNat))).length) lc) (((nmL s m idn (2 * n.toNat))).length) (((nmL s m idn (2 * n.toNat))).map (Value.int .i64)), pt b1 #[.int .i64 0, .int .i64 0, .int .i64 0, .slice none 0 0, .slice none 0 0, .slice none 0 0] 56] _ := hM
                        refine D.valF hA rfl (fun _ => R.fieldAddr (q := 4) fi56_4 rfl rfl rfl) rfl ?_; clear hA a; intro a hA
                        refine D.store (k := 0) hA hM rfl sz40 rfl rfl rfl rfl rfl ?_; clear hM
                        intro w22 hM; refine ⟨fun hb0 => absurd hb0 (by decide), ?_⟩
                        replace hM : Mem _ _ [pt b6 #[.int .i64 kd, .int .i64 n, .int .i64 0, .slice a20 ((((nmL s m evn k) ++ [nm s m (2 * k)])).length) c21, .slice a25 ((((nmL s m odd1 k) ++ [nm s m (2 * k + 1)])).length) c26, .slice none 0 0] 56, own 3 1 (.slice a20 ((((nmL s m evn k) ++ [nm s m (2 * k)])).length) c21) ((((nmL s m evn k) ++ [nm s m (2 * k)])).length) ((((nmL s m evn k) ++ [nm s m (2 * k)])).map (Value.int .i64)), own 3 1 (.slice a25 ((((nmL s m odd1 k) ++ [nm s m (2 * k + 1)])).length) c26) ((((nmL s m odd1 k) ++ [nm s m (2 * k + 1)])).length) ((((nmL s m odd1 k) ++ [nm s m (2 * k + 1)])).map (Value.int .i64)), own 3 1 (.slice la (((nmL s m idn (2 * n.toNat))).length) lc) (((nmL s m idn (2 * n.toNat))).length) (((nmL s m idn (2 * n.toNat))).map (Value.int .i64)), pt b1 #[.int .i64 0, .int .i64 0, .int .i64 0, .slice none 0 0, .slice none 0 0, .slice none 0 0] 56] _ := hM
                        refine D.done ?_
                        replace hA : St 139 [(0, _), (1, _), (2, _), (3, _), (8, _), (10, _), (11, _), (13, _), (14, _)] a := hA.sub ((.cons rfl (.cons rfl (.cons rfl (.cons rfl (.cons rfl (.cons rfl (.cons rfl (.cons rfl (.cons rfl .nil))))))))))
                        refine Ends.region ?_
                        refine S.val hA (R.move rfl) rfl ?_; clear hA a; intro a hA
                        refine S.val hA (R.move rfl) rfl ?_; clear hA a; intro a hA
                        refine S.val hA (R.move rfl) rfl ?_; clear hA a; intro a hA
                        refine S.val hA (R.mulI rfl rfl (r := 2 * ((k : Int))) rfl (by first | omega | (rw [nmL_len]; omega))) rfl ?_; clear hA a; intro a hA
                        refine S.val hA (R.idxI (hM.rsl (k := 3) rfl) (j := 2 * k) sl40 rfl rfl (by first | omega | (rw [nmL_len]; omega)) (by first | omega | (rw [nmL_len]; omega))) rfl ?_; clear hA a; intro a hA
                        refine S.val hA (R.to (v := .int .i64 (nm s m (2 * k))) (R.loadI (hM.rsl (k := 3) rfl) sz3 rfl (by rw [nmL_len]; omega)) (congrArg (Value.int .i64) (nmL_get s m idn (by omega)))) rfl ?_; clear hA a; intro a hA
                        refine S.val hA (R.addI rfl rfl (r := ((nmL s m evn k).sum) + (nm s m (2 * k))) rfl (by first | omega | (rw [nmL_len]; omega))) rfl ?_; clear hA a; intro a hA
                        refine S.val hA (R.assign rfl) rfl ?_; clear hA a; intro a hA
                        refine S.done ?_
                        replace hA : St 139 [(0, _), (1, _), (2, _), (3, _), (8, _), (10, _), (11, _), (13, _), (14, _)] a := hA.sub ((.cons rfl (.cons rfl (.cons rfl (.cons rfl (.cons rfl (.cons rfl (.cons rfl (.cons rfl (.cons rfl .nil))))))))))
                        refine Ends.inBlock ?_
                        refine Ends.region ?_
                        refine S.val hA (R.move rfl) rfl ?_; clear hA a; intro a hA
                        refine S.val hA (R.addI rfl rfl (r := ((k : Int)) + 1) rfl (by first | omega | (rw [nmL_len]; omega))) rfl ?_; clear hA a; intro a hA
                        refine S.val hA (R.assign rfl) rfl ?_; clear hA a; intro a hA
                        refine S.done ?_
                        replace hA : St 139 [(0, _), (1, _), (2, _), (3, _), (8, _), (10, _), (11, _), (13, _), (14, _)] a := hA.sub ((.cons rfl (.cons rfl (.cons rfl (.cons rfl (.cons rfl (.cons rfl (.cons rfl (.cons rfl (.cons rfl .nil))))))))))
                        rw [show nmL s m evn k ++ [nm s m (2 * k)] = nmL s m evn (k + 1) from nmL_succ s m evn k, show nmL s m odd1 k ++ [nm s m (2 * k + 1)] = nmL s m odd1 (k + 1) from nmL_succ s m odd1 k] at hM
                        rw [show (nmL s m evn k).sum + nm s m (2 * k) = (nmL s m evn (k + 1)).sum from (nmL_sumS s m evn k).symm] at hA
                        replace hM := hM.front (k := 4) rfl
                        replace hM := hM.front (k := 4) rfl
                        replace hM := hM.front (k := 4) rfl
                        replace hM := hM.front (k := 4) rfl
                        replace hM := hM.front (k := 4) rfl
                        replace hM := hM.firstN 5
                        exact hNext ((k + 1, a20, c21, a25, c26)) _ _ ((by show n.toNat - (k + 1) < n.toNat - k; omega)) ⟨hA.sub ((.cons rfl (.cons rfl (.cons rfl (.cons rfl (.cons rfl (.cons rfl (.cons rfl (.cons rfl (.cons rfl .nil)))))))))), hM, (by omega)⟩
                      ·
                        refine D.buildSl (cells := #[.int .i64 (nm s m (2 * k + 1))]) hA hM rfl Try.underlying40 info3 rfl rfl rfl rfl (by kernel_rfl) rfl ?_; clear hA hM a; intro b28 w23 hb29 hM; refine ⟨(fun hM => (((hM.drop 3).drop 2).drop 0)) hM.tail, fun a hA => ?_⟩
                        replace hM : Mem _ _ [pt b28 #[.int .i64 (nm s m (2 * k + 1))] 3, pt b10 #[.int .i64 (nm s m (2 * k))] 3, pt b6 #[.int .i64 kd, .int .i64 n, .int .i64 0, .slice aw ((nmL s m evn k).length) cw, .slice av ((nmL s m odd1 k).length) cv, .slice none 0 0] 56, own 3 1 (.slice aw (((nmL s m evn k)).length) cw) (((nmL s m evn k)).length) (((nmL s m evn k)).map (Value.int .i64)), own 3 1 (.slice av (((nmL s m odd1 k)).length) cv) (((nmL s m odd1 k)).length) (((nmL s m odd1 k)).map (Value.int .i64)), own 3 1 (.slice la (((nmL s m idn (2 * n.toNat))).length) lc) (((nmL s m idn (2 * n.toNat))).length) (((nmL s m idn (2 * n.toNat))).map (Value.int .i64)), pt b1 #[.int .i64 0, .int .i64 0, .int .i64 0, .slice none 0 0, .slice none 0 0, .slice none 0 0] 56] _ := hM
                        refine D.append (k := 3) (k2 := 1) hA hM rfl rfl rfl Try.underlying40 info3 rfl rfl rfl rfl rfl rfl rfl rfl rfl (by first | omega | (simp only [nmL_len, rowF_len]; show (_ + 1) * 8 ≤ 140737488355328; omega) | (simp only [nmL_len, rowF_len]; unfold maxLen; omega) | (show (_ + 1) * 24 ≤ 140737488355328; omega) | (unfold maxLen; omega)) (by first | omega | (simp only [nmL_len, rowF_len]; show (_ + 1) * 8 ≤ 140737488355328; omega) | (simp only [nmL_len, rowF_len]; unfold maxLen; omega) | (show (_ + 1) * 24 ≤ 140737488355328; omega) | (unfold maxLen; omega)) rfl ?_; clear hA hM a; intro a30 c31 w24 hM
                        replace hM : Mem _ _ [pt b28 #[.int .i64 (nm s m (2 * k + 1))] 3, pt b10 #[.int .i64 (nm s m (2 * k))] 3, pt b6 #[.int .i64 kd, .int .i64 n, .int .i64 0, .slice aw ((nmL s m evn k).length) cw, .slice av ((nmL s m odd1 k).length) cv, .slice none 0 0] 56, own 3 1 (.slice a30 ((((nmL s m evn k)).length) + 1) c31) ((((nmL s m evn k)).length) + 1) (((nmL s m evn k)).map (Value.int .i64) ++ [.int .i64 (nm s m (2 * k))]), own 3 1 (.slice av (((nmL s m odd1 k)).length) cv) (((nmL s m odd1 k)).length) (((nmL s m odd1 k)).map (Value.int .i64)), own 3 1 (.slice la (((nmL s m idn (2 * n.toNat))).length) lc) (((nmL s m idn (2 * n.toNat))).length) (((nmL s m idn (2 * n.toNat))).map (Value.int .i64)), pt b1 #[.int .i64 0, .int .i64 0, .int .i64 0, .slice none 0 0, .slice none 0 0, .slice none 0 0] 56] _ := hM
                        have hl32 : (((nmL s m evn k)).length) + 1 = ((nmL s m evn k) ++ [nm s m (2 * k)]).length := by simp
                        rw [hl32, show ((nmL s m evn k)).map (Value.int .i64) ++ [.int .i64 (nm s m (2 * k))] = ((nmL s m evn k) ++ [nm s m (2 * k)]).map (Value.int .i64) by simp] at hM
                        replace hM := hM.drop 1
                        replace hM : Mem _ _ [pt b28 #[.int .i64 (nm s m (2 * k + 1))] 3, pt b6 #[.int .i64 kd, .int .i64 n, .int .i64 0, .slice aw ((nmL s m evn k).length) cw, .slice av ((nmL s m odd1 k).length) cv, .slice none 0 0] 56, own 3 1 (.slice a30 ((((nmL s m evn k) ++ [nm s m (2 * k)])).length) c31) ((((nmL s m evn k) ++ [nm s m (2 * k)])).length) ((((nmL s m evn k) ++ [nm s m (2 * k)])).map (Value.int .i64)), own 3 1 (.slice av (((nmL s m odd1 k)).length) cv) (((nmL s m odd1 k)).length) (((nmL s m odd1 k)).map (Value.int .i64)), own 3 1 (.slice la (((nmL s m idn (2 * n.toNat))).length) lc) (((nmL s m idn (2 * n.toNat))).length) (((nmL s m idn (2 * n.toNat))).map (Value.int .i64)), pt b1 #[.int .i64 0, .int .i64 0, .int .i64 0, .slice none 0 0, .slice none 0 0, .slice none 0 0] 56] _ := hM
                        refine ⟨(((hM.drop 3).drop 2).drop 0), fun a hA => ?_⟩; rw [hl32] at hA; clear hl32
                        refine D.valF hA rfl (fun _ => R.fieldAddr (q := 3) fi56_3 rfl rfl rfl) rfl ?_; clear hA a; intro a hA
                        refine D.append (k := 3) (k2 := 0) hA hM rfl rfl rfl Try.underlying40 info3 rfl rfl rfl rfl rfl rfl rfl rfl rfl (by first | omega | (simp only [nmL_len, rowF_len]; show (_ + 1) * 8 ≤ 140737488355328; omega) | (simp only [nmL_len, rowF_len]; unfold maxLen; omega) | (show (_ + 1) * 24 ≤ 140737488355328; omega) | (unfold maxLen; omega)) (by first | omega | (simp only [nmL_len, rowF_len]; show (_ + 1) * 8 ≤ 140737488355328; omega) | (simp only [nmL_len, rowF_len]; unfold maxLen; omega) | (show (_ + 1) * 24 ≤ 140737488355328; omega) | (unfold maxLen; omega)) rfl ?_; clear hA hM a; intro a33 c34 w25 hM
                        replace hM : Mem _ _ [pt b28 #[.int .i64 (nm s m (2 * k + 1))] 3, pt b6 #[.int .i64 kd, .int .i64 n, .int .i64 0, .slice aw ((nmL s m evn k).length) cw, .slice av ((nmL s m odd1 k).length) cv, .slice none 0 0] 56, own 3 1 (.slice a30 ((((nmL s m evn k) ++ [nm s m (2 * k)])).length) c31) ((((nmL s m evn k) ++ [nm s m (2 * k)])).length) ((((nmL s m evn k) ++ [nm s m (2 * k)])).map (Value.int .i64)), own 3 1 (.slice a33 ((((nmL s m odd1 k)).length) + 1) c34) ((((nmL s m odd1 k)).length) + 1) (((nmL s m odd1 k)).map (Value.int .i64) ++ [.int .i64 (nm s m (2 * k + 1))]), own 3 1 (.slice la (((nmL s m idn (2 * n.toNat))).length) lc) (((nmL s m idn (2 * n.toNat))).length) (((nmL s m idn (2 * n.toNat))).map (Value.int .i64)), pt b1 #[.int .i64 0, .int .i64 0, .int .i64 0, .slice none 0 0, .slice none 0 0, .slice none 0 0] 56] _ := hM
                        have hl35 : (((nmL s m odd1 k)).length) + 1 = ((nmL s m odd1 k) ++ [nm s m (2 * k + 1)]).length := by simp
                        rw [hl35, show ((nmL s m odd1 k)).map (Value.int .i64) ++ [.int .i64 (nm s m (2 * k + 1))] = ((nmL s m odd1 k) ++ [nm s m (2 * k + 1)]).map (Value.int .i64) by simp] at hM
                        replace hM := hM.drop 0
                        replace hM : Mem _ _ [pt b6 #[.int .i64 kd, .int .i64 n, .int .i64 0, .slice aw ((nmL s m evn k).length) cw, .slice av ((nmL s m odd1 k).length) cv, .slice none 0 0] 56, own 3 1 (.slice a30 ((((nmL s m evn k) ++ [nm s m (2 * k)])).length) c31) ((((nmL s m evn k) ++ [nm s m (2 * k)])).length) ((((nmL s m evn k) ++ [nm s m (2 * k)])).map (Value.int .i64)), own 3 1 (.slice a33 ((((nmL s m odd1 k) ++ [nm s m (2 * k + 1)])).length) c34) ((((nmL s m odd1 k) ++ [nm s m (2 * k + 1)])).length) ((((nmL s m odd1 k) ++ [nm s m (2 * k + 1)])).map (Value.int .i64)), own 3 1 (.slice la (((nmL s m idn (2 * n.toNat))).length) lc) (((nmL s m idn (2 * n.toNat))).length) (((nmL s m idn (2 * n.toNat))).map (Value.int .i64)), pt b1 #[.int .i64 0, .int .i64 0, .int .i64 0, .slice none 0 0, .slice none 0 0, .slice none 0 0] 56] _ := hM
                        refine ⟨((hM.drop 2).drop 1), fun a hA => ?_⟩; rw [hl35] at hA; clear hl35
                        refine D.store (k := 0) hA hM rfl sz40 rfl rfl rfl rfl rfl ?_; clear hM
                        intro w26 hM; refine ⟨fun _ hne => absurd rfl hne, ?_⟩
                        replace hM : Mem _ _ [pt b6 #[.int .i64 kd, .int .i64 n, .int .i64 0, .slice a30 ((((nmL s m evn k) ++ [nm s m (2 * k)])).length) c31, .slice av ((nmL s m odd1 k).length) cv, .slice none 0 0] 56, own 3 1 (.slice a30 ((((nmL s m evn k) ++ [nm s m (2 * k)])).length) c31) ((((nmL s m evn k) ++ [nm s m (2 * k)])).length) ((((nmL s m evn k) ++ [nm s m (2 * k)])).map (Value.int .i64)), own 3 1 (.slice a33 ((((nmL s m odd1 k) ++ [nm s m (2 * k + 1)])).length) c34) ((((nmL s m odd1 k) ++ [nm s m (2 * k + 1)])).length) ((((nmL s m odd1 k) ++ [nm s m (2 * k + 1)])).map (Value.int .i64)), own 3 1 (.slice la (((nmL s m idn (2 * n.toNat))).length) lc) (((nmL s m idn (2 * n.toNat))).length) (((nmL s m idn (2 * n.toNat))).map (Value.int .i64)), pt b1 #[.int .i64 0, .int .i64 0, .int .i64 0, .slice none 0 0, .slice none 0 0, .slice none 0 0] 56] _ := hM
                        refine D.valF hA rfl (fun _ => R.fieldAddr (q := 4) fi56_4 rfl rfl rfl) rfl ?_; clear hA a; intro a hA
                        refine D.store (k := 0) hA hM rfl sz40 rfl rfl rfl rfl rfl ?_; clear hM
                        intro w27 hM; refine ⟨fun hb0 => absurd hb0 (by decide), ?_⟩
                        replace hM : Mem _ _ [pt b6 #[.int .i64 kd, .int .i64 n, .int .i64 0, .slice a30 ((((nmL s m evn k) ++ [nm s m (2 * k)])).length) c31, .slice a33 ((((nmL s m odd1 k) ++ [nm s m (2 * k + 1)])).length) c34, .slice none 0 0] 56, own 3 1 (.slice a30 ((((nmL s m evn k) ++ [nm s m (2 * k)])).length) c31) ((((nmL s m evn k) ++ [nm s m (2 * k)])).length) ((((nmL s m evn k) ++ [nm s m (2 * k)])).map (Value.int .i64)), own 3 1 (.slice a33 ((((nmL s m odd1 k) ++ [nm s m (2 * k + 1)])).length) c34) ((((nmL s m odd1 k) ++ [nm s m (2 * k + 1)])).length) ((((nmL s m odd1 k) ++ [nm s m (2 * k + 1)])).map (Value.int .i64)), own 3 1 (.slice la (((nmL s m idn (2 * n.toNat))).length) lc) (((nmL s m idn (2 * n.toNat))).length) (((nmL s m idn (2 * n.toNat))).map (Value.int .i64)), pt b1 #[.int .i64 0, .int .i64 0, .int .i64 0, .slice none 0 0, .slice none 0 0, .slice none 0 0] 56] _ := hM
                        refine D.done ?_
                        replace hA : St 139 [(0, _), (1, _), (2, _), (3, _), (8, _), (10, _), (11, _), (13, _), (14, _)] a := hA.sub ((.cons rfl (.cons rfl (.cons rfl (.cons rfl (.cons rfl (.cons rfl (.cons rfl (.cons rfl (.cons rfl .nil))))))))))
                        refine Ends.region ?_
                        refine S.val hA (R.move rfl) rfl ?_; clear hA a; intro a hA
                        refine S.val hA (R.move rfl) rfl ?_; clear hA a; intro a hA
                        refine S.val hA (R.move rfl) rfl ?_; clear hA a; intro a hA
                        refine S.val hA (R.mulI rfl rfl (r := 2 * ((k : Int))) rfl (by first | omega | (rw [nmL_len]; omega))) rfl ?_; clear hA a; intro a hA
                        refine S.val hA (R.idxI (hM.rsl (k := 3) rfl) (j := 2 * k) sl40 rfl rfl (by first | omega | (rw [nmL_len]; omega)) (by first | omega | (rw [nmL_len]; omega))) rfl ?_; clear hA a; intro a hA
                        refine S.val hA (R.to (v := .int .i64 (nm s m (2 * k))) (R.loadI (hM.rsl (k := 3) rfl) sz3 rfl (by rw [nmL_len]; omega)) (congrArg (Value.int .i64) (nmL_get s m idn (by omega)))) rfl ?_; clear hA a; intro a hA
                        refine S.val hA (R.addI rfl rfl (r := ((nmL s m evn k).sum) + (nm s m (2 * k))) rfl (by first | omega | (rw [nmL_len]; omega))) rfl ?_; clear hA a; intro a hA
                        refine S.val hA (R.assign rfl) rfl ?_; clear hA a; intro a hA
                        refine S.done ?_
                        replace hA : St 139 [(0, _), (1, _), (2, _), (3, _), (8, _), (10, _), (11, _), (13, _), (14, _)] a := hA.sub ((.cons rfl (.cons rfl (.cons rfl (.cons rfl (.cons rfl (.cons rfl (.cons rfl (.cons rfl (.cons rfl .nil))))))))))
                        refine Ends.inBlock ?_
                        refine Ends.region ?_
                        refine S.val hA (R.move rfl) rfl ?_; clear hA a; intro a hA
                        refine S.val hA (R.addI rfl rfl (r := ((k : Int)) + 1) rfl (by first | omega | (rw [nmL_len]; omega))) rfl ?_; clear hA a; intro a hA
                        refine S.val hA (R.assign rfl) rfl ?_; clear hA a; intro a hA
                        refine S.done ?_
                        replace hA : St 139 [(0, _), (1, _), (2, _), (3, _), (8, _), (10, _), (11, _), (13, _), (14, _)] a := hA.sub ((.cons rfl (.cons rfl (.cons rfl (.cons rfl (.cons rfl (.cons rfl (.cons rfl (.cons rfl (.cons rfl .nil))))))))))
                        rw [show nmL s m evn k ++ [nm s m (2 * k)] = nmL s m evn (k + 1) from nmL_succ s m evn k, show nmL s m odd1 k ++ [nm s m (2 * k + 1)] = nmL s m odd1 (k + 1) from nmL_succ s m odd1 k] at hM
                        rw [show (nmL s m evn k).sum + nm s m (2 * k) = (nmL s m evn (k + 1)).sum from (nmL_sumS s m evn k).symm] at hA
                        replace hM := hM.front (k := 4) rfl
                        replace hM := hM.front (k := 4) rfl
                        replace hM := hM.front (k := 4) rfl
                        replace hM := hM.front (k := 4) rfl
                        replace hM := hM.front (k := 4) rfl
                        replace hM := hM.firstN 5
                        exact hNext ((k + 1, a30, c31, a33, c34)) _ _ ((by show n.toNat - (k + 1) < n.toNat - k; omega)) ⟨hA.sub ((.cons rfl (.cons rfl (.cons rfl (.cons rfl (.cons rfl (.cons rfl (.cons rfl (.cons rfl (.cons rfl .nil)))))))))), hM, (by omega)⟩
                  ·
                    refine D.eff hA rfl (R.to (v := .int .i64 (nm s m (2 * k + 1))) (R.loadI (hM.rsl (k := 3) rfl) sz3 rfl (by rw [nmL_len]; omega)) (congrArg (Value.int .i64) (nmL_get s m idn (by omega)))) rfl ((hM.drop 2).drop 1) ?_; clear hA a; intro a hA
                    refine D.fork rfl rfl ?_ ?_
                    ·
                      refine D.buildSl (cells := #[.int .i64 (nm s m (2 * k))]) hA hM rfl Try.underlying40 info3 rfl rfl rfl rfl (by kernel_rfl) rfl ?_; clear hA hM a; intro b36 w28 hb37 hM; refine ⟨(fun hM => ((hM.drop 2).drop 1)) hM.tail, fun a hA => ?_⟩
                      replace hM : Mem _ _ [pt b36 #[.int .i64 (nm s m (2 * k))] 3, pt b6 #[.int .i64 kd, .int .i64 n, .int .i64 0, .slice aw ((nmL s m evn k).length) cw, .slice av ((nmL s m odd1 k).length) cv, .slice none 0 0] 56, own 3 1 (.slice aw (((nmL s m evn k)).length) cw) (((nmL s m evn k)).length) (((nmL s m evn k)).map (Value.int .i64)), own 3 1 (.slice av (((nmL s m odd1 k)).length) cv) (((nmL s m odd1 k)).length) (((nmL s m odd1 k)).map (Value.int .i64)), own 3 1 (.slice la (((nmL s m idn (2 * n.toNat))).length) lc) (((nmL s m idn (2 * n.toNat))).length) (((nmL s m idn (2 * n.toNat))).map (Value.int .i64)), pt b1 #[.int .i64 0, .int .i64 0, .int .i64 0, .slice none 0 0, .slice none 0 0, .slice none 0 0] 56] _ := hM
                      refine D.fork rfl rfl ?_ ?_
                      ·
                        refine D.append (k := 2) (k2 := 0) hA hM rfl rfl rfl Try.underlying40 info3 rfl rfl rfl rfl rfl rfl rfl rfl rfl (by first | omega | (simp only [nmL_len, rowF_len]; show (_ + 1) * 8 ≤ 140737488355328; omega) | (simp only [nmL_len, rowF_len]; unfold maxLen; omega) | (show (_ + 1) * 24 ≤ 140737488355328; omega) | (unfold maxLen; omega)) (by first | omega | (simp only [nmL_len, rowF_len]; show (_ + 1) * 8 ≤ 140737488355328; omega) | (simp only [nmL_len, rowF_len]; unfold maxLen; omega) | (show (_ + 1) * 24 ≤ 140737488355328; omega) | (unfold maxLen; omega)) rfl ?_; clear hA hM a; intro a38 c39 w29 hM
                        replace hM : Mem _ _ [pt b36 #[.int .i64 (nm s m (2 * k))] 3, pt b6 #[.int .i64 kd, .int .i64 n, .int .i64 0, .slice aw ((nmL s m evn k).length) cw, .slice av ((nmL s m odd1 k).length) cv, .slice none 0 0] 56, own 3 1 (.slice a38 ((((nmL s m evn k)).length) + 1) c39) ((((nmL s m evn k)).length) + 1) (((nmL s m evn k)).map (Value.int .i64) ++ [.int .i64 (nm s m (2 * k))]), own 3 1 (.slice av (((nmL s m odd1 k)).length) cv) (((nmL s m odd1 k)).length) (((nmL s m odd1 k)).map (Value.int .i64)), own 3 1 (.slice la (((nmL s m idn (2 * n.toNat))).length) lc) (((nmL s m idn (2 * n.toNat))).length) (((nmL s m idn (2 * n.toNat))).map (Value.int .i64)), pt b1 #[.int .i64 0, .int .i64 0, .int .i64 0, .slice none 0 0, .slice none 0 0, .slice none 0 0] 56] _ := hM
                        have hl40 : (((nmL s m evn k)).length) + 1 = ((nmL s m evn k) ++ [nm s m (2 * k)]).length := by simp
                        rw [hl40, show ((nmL s m evn k)).map (Value.int .i64) ++ [.int .i64 (nm s m (2 * k))] = ((nmL s m evn k) ++ [nm s m (2 * k)]).map (Value.int .i64) by simp] at hM
                        replace hM := hM.drop 0
                        replace hM : Mem _ _ [pt b6 #[.int .i64 kd, .int .i64 n, .int .i64 0, .slice aw ((nmL s m evn k).length) cw, .slice av ((nmL s m odd1 k).length) cv, .slice none 0 0] 56, own 3 1 (.slice a38 ((((nmL s m evn k) ++ [nm s m (2 * k)])).length) c39) ((((nmL s m evn k) ++ [nm s m (2 * k)])).length) ((((nmL s m evn k) ++ [nm s m (2 * k)])).map (Value.int .i64)), own 3 1 (.slice av (((nmL s m odd1 k)).length) cv) (((nmL s m odd1 k)).length) (((nmL s m odd1 k)).map (Value.int .i64)), own 3 1 (.slice la (((nmL s m idn (2 * n.toNat))).length) lc) (((nmL s m idn (2 * n.toNat))).length) (((nmL s m idn (2 * n.toNat))).map (Value.int .i64)), pt b1 #[.int .i64 0, .int .i64 0, .int .i64 0, .slice none 0 0, .slice none 0 0, .slice none 0 0] 56] _ := hM
                        refine ⟨((hM.drop 2).drop 1), fun a hA => ?_⟩; rw [hl40] at hA; clear hl40
                        refine D.valF hA rfl (fun _ => R.fieldAddr (q := 3) fi56_3 rfl rfl rfl) rfl ?_; clear hA a; intro a hA
                        refine D.buildSl (cells := #[.int .i64 (nm s m (2 * k + 1))]) hA hM rfl Try.underlying40 info3 rfl rfl rfl rfl (by kernel_rfl) rfl ?_; clear hA hM a; intro b41 w30 hb42 hM; refine ⟨(fun hM => ((hM.drop 2).drop 1)) hM.tail, fun a hA => ?_⟩
                        replace hM : Mem _ _ [pt b41 #[.int .i64 (nm s m (2 * k + 1))] 3, pt b6 #[.int .i64 kd, .int .i64 n, .int .i64 0, .slice aw ((nmL s m evn k).length) cw, .slice av ((nmL s m odd1 k).length) cv, .slice none 0 0] 56, own 3 1 (.slice a38 ((((nmL s m evn k) ++ [nm s m (2 * k)])).length) c39) ((((nmL s m evn k) ++ [nm s m (2 * k)])).length) ((((nmL s m evn k) ++ [nm s m (2 * k)])).map (Value.int .i64)), own 3 1 (.slice av (((nmL s m odd1 k)).length) cv) (((nmL s m odd1 k)).length) (((nmL s m odd1 k)).map (Value.int .i64)), own 3 1 (.slice la (((nmL s m idn (2 * n.toNat))).length) lc) (((nmL s m idn (2 * n.toNat))).length) (((nmL s m idn (2 * n.toNat))).map (Value.int .i64)), pt b1 #[.int .i64 0, .int .i64 0, .int .i64 0, .slice none 0 0, .slice none 0 0, .slice none 0 0] 56] _ := hM
                        refine D.append (k := 3) (k2 := 0) hA hM rfl rfl rfl Try.underlying40 info3 rfl rfl rfl rfl rfl rfl rfl rfl rfl (by first | omega | (simp only [nmL_len, rowF_len]; show (_ + 1) * 8 ≤ 140737488355328; omega) | (simp only [nmL_len, rowF_len]; unfold maxLen; omega) | (show (_ + 1) * 24 ≤ 140737488355328; omega) | (unfold maxLen; omega)) (by first | omega | (simp only [nmL_len, rowF_len]; show (_ + 1) * 8 ≤ 140737488355328; omega) | (simp only [nmL_len, rowF_len]; unfold maxLen; omega) | (show (_ + 1) * 24 ≤ 140737488355328; omega) | (unfold maxLen; omega)) rfl ?_; clear hA hM a; intro a43 c44 w31 hM
                        replace hM : Mem _ _ [pt b41 #[.int .i64 (nm s m (2 * k + 1))] 3, pt b6 #[.int .i64 kd, .int .i64 n, .int .i64 0, .slice aw ((nmL s m evn k).length) cw, .slice av ((nmL s m odd1 k).length) cv, .slice none 0 0] 56, own 3 1 (.slice a38 ((((nmL s m evn k) ++ [nm s m (2 * k)])).length) c39) ((((nmL s m evn k) ++ [nm s m (2 * k)])).length) ((((nmL s m evn k) ++ [nm s m (2 * k)])).map (Value.int .i64)), own 3 1 (.slice a43 ((((nmL s m odd1 k)).length) + 1) c44) ((((nmL s m odd1 k)).length) + 1) (((nmL s m odd1 k)).map (Value.int .i64) ++ [.int .i64 (nm s m (2 * k + 1))]), own 3 1 (.slice la (((nmL s m idn (2 * n.toNat))).length) lc) (((nmL s m idn (2 * n.toNat))).length) (((nmL s m idn (2 * n.toNat))).map (Value.int .i64)), pt b1 #[.int .i64 0, .int .i64 0, .int .i64 0, .slice none 0 0, .slice none 0 0, .slice none 0 0] 56] _ := hM
                        have hl45 : (((nmL s m odd1 k)).length) + 1 = ((nmL s m odd1 k) ++ [nm s m (2 * k + 1)]).length := by simp
                        rw [hl45, show ((nmL s m odd1 k)).map (Value.int .i64) ++ [.int .i64 (nm s m (2 * k + 1))] = ((nmL s m odd1 k) ++ [nm s m (2 * k + 1)]).map (Value.int .i64) by simp] at hM
                        replace hM := hM.drop 0
                        replace hM : Mem _ _ [pt b6 #[.int .i64 kd, .int .i64 n, .int .i64 0, .slice aw ((nmL s m evn k).length) cw, .slice av ((nmL s m odd1 k).length) cv, .slice none 0 0] 56, own 3 1 (.slice a38 ((((nmL s m evn k) ++ [nm s m (2 * k)])).length) c39) ((((nmL s m evn k) ++ [nm s m (2 * k)])).length) ((((nmL s m evn k) ++ [nm s m (2 * k)])).map (Value.int .i64)), own 3 1 (.slice a43 ((((nmL s m odd1 k) ++ [nm s m (2 * k + 1)])).length) c44) ((((nmL s m odd1 k) ++ [nm s m (2 * k + 1)])).length) ((((nmL s m odd1 k) ++ [nm s m (2 * k + 1)])).map (Value.int .i64)), own 3 1 (.slice la (((nmL s m idn (2 * n.toNat))).length) lc) (((nmL s m idn (2 * n.toNat))).length) (((nmL s m idn (2 * n.toNat))).map (Value.int .i64)), pt b1 #[.int .i64 0, .int .i64 0, .int .i64 0, .slice none 0 0, .slice none 0 0, .slice none 0 0] 56] _ := hM
                        refine ⟨((hM.drop 2).drop 1), fun a hA => ?_⟩; rw [hl45] at hA; clear hl45
                        refine D.store (k := 0) hA hM rfl sz40 rfl rfl rfl rfl rfl ?_; clear hM
                        intro w32 hM; refine ⟨fun _ hne => absurd rfl hne, ?_⟩
                        replace hM : Mem _ _ [pt b6 #[.int .i64 kd, .int .i64 n, .int .i64 0, .slice a38 ((((nmL s m evn k) ++ [nm s m (2 * k)])).length) c39, .slice av ((nmL s m odd1 k).length) cv, .slice none 0 0] 56, own 3 1 (.slice a38 ((((nmL s m evn k) ++ [nm s m (2 * k)])).length) c39) ((((nmL s m evn k) ++ [nm s m (2 * k)])).length) ((((nmL s m evn k) ++ [nm s m (2 * k)])).map (Value.int .i64)), own 3 1 (.slice a43 ((((nmL s m odd1 k) ++ [nm s m (2 * k + 1)])).length) c44) ((((nmL s m odd1 k) ++ [nm s m (2 * k + 1)])).length) ((((nmL s m odd1 k) ++ [nm s m (2 * k + 1)])).map (Value.int .i64)), own 3 1 (.slice la (((nmL s m idn (2 * n.toNat))).length) lc) (((nmL s m idn (2 * n.toNat))).length) (((nmL s m idn (2 * n.toNat))).map (Value.int .i64)), pt b1 #[.int .i64 0, .int .i64 0, .int .i64 0, .slice none 0 0, .slice none 0 0, .slice none 0 0] 56] _ := hM
                        refine D.valF hA rfl (fun _ => R.fieldAddr (q := 4) fi56_4 rfl rfl rfl) rfl ?_; clear hA a; intro a hA
                        refine D.store (k := 0) hA hM rfl sz40 rfl rfl rfl rfl rfl ?_; clear hM
                        intro w33 hM; refine ⟨fun hb0 => absurd hb0 (by decide), ?_⟩
                        replace hM : Mem _ _ [pt b6 #[.int .i64 kd, .int .i64 n, .int .i64 0, .slice a38 ((((nmL s m evn k) ++ [nm s m (2 * k)])).length) c39, .slice a43 ((((nmL s m odd1 k) ++ [nm s m (2 * k + 1)])).length) c44, .slice none 0 0] 56, own 3 1 (.slice a38 ((((nmL s m evn k) ++ [nm s m (2 * k)])).length) c39) ((((nmL s m evn k) ++ [nm s m (2 * k)])).length) ((((nmL s m evn k) ++ [nm s m (2 * k)])).map (Value.int .i64)), own 3 1 (.slice a43 ((((nmL s m odd1 k) ++ [nm s m (2 * k + 1)])).length) c44) ((((nmL s m odd1 k) ++ [nm s m (2 * k + 1)])).length) ((((nmL s m odd1 k) ++ [nm s m (2 * k + 1)])).map (Value.int .i64)), own 3 1 (.slice la (((nmL s m idn (2 * n.toNat))).length) lc) (((nmL s m idn (2 * n.toNat))).length) (((nmL s m idn (2 * n.toNat))).map (Value.int .i64)), pt b1 #[.int .i64 0, .int .i64 0, .int .i64 0, .slice none 0 0, .slice none 0 0, .slice none 0 0] 56] _ := hM
                        refine D.done ?_
                        replace hA : St 139 [(0, _), (1, _), (2, _), (3, _), (8, _), (10, _), (11, _), (13, _), (14, _)] a := hA.sub ((.cons rfl (.cons rfl (.cons rfl (.cons rfl (.cons rfl (.cons rfl (.cons rfl (.cons rfl (.cons rfl .nil))))))))))
                        refine Ends.region ?_
                        refine S.val hA (R.move rfl) rfl ?_; clear hA a; intro a hA
                        refine S.val hA (R.move rfl) rfl ?_; clear hA a; intro a hA
                        refine S.val hA (R.move rfl) rfl ?_; clear hA a; intro a hA
                        refine S.val hA (R.mulI rfl rfl (r := 2 * ((k : Int))) rfl (by first | omega | (rw [nmL_len]; omega))) rfl ?_; clear hA a; intro a hA
                        refine S.val hA (R.idxI (hM.rsl (k := 3) rfl) (j := 2 * k) sl40 rfl rfl (by first | omega | (rw [nmL_len]; omega)) (by first | omega | (rw [nmL_len]; omega))) rfl ?_; clear hA a; intro a hA
                        refine S.val hA (R.to (v := .int .i64 (nm s m (2 * k))) (R.loadI (hM.rsl (k := 3) rfl) sz3 rfl (by rw [nmL_len]; omega)) (congrArg (Value.int .i64) (nmL_get s m idn (by omega)))) rfl ?_; clear hA a; intro a hA
                        refine S.val hA (R.addI rfl rfl (r := ((nmL s m evn k).sum) + (nm s m (2 * k))) rfl (by first | omega | (rw [nmL_len]; omega))) rfl ?_; clear hA a; intro a hA
                        refine S.val hA (R.assign rfl) rfl ?_; clear hA a; intro a hA
                        refine S.done ?_
                        replace hA : St 139 [(0, _), (1, _), (2, _), (3, _), (8, _), (10, _), (11, _), (13, _), (14, _)] a := hA.sub ((.cons rfl (.cons rfl (.cons rfl (.cons rfl (.cons rfl (.cons rfl (.cons rfl (.cons rfl (.cons rfl .nil))))))))))
                        refine Ends.inBlock ?_
                        refine Ends.region ?_
                        refine S.val hA (R.move rfl) rfl ?_; clear hA a; intro a hA
                        refine S.val hA (R.addI rfl rfl (r := ((k : Int)) + 1) rfl (by first | omega | (rw [nmL_len]; omega))) rfl ?_; clear hA a; intro a hA
                        refine S.val hA (R.assign rfl) rfl ?_; clear hA a; intro a hA
                        refine S.done ?_
                        replace hA : St 139 [(0, _), (1, _), (2, _), (3, _), (8, _), (10, _), (11, _), (13, _), (14, _)] a := hA.sub ((.cons rfl (.cons rfl (.cons rfl (.cons rfl (.cons rfl (.cons rfl (.cons rfl (.cons rfl (.cons rfl .nil))))))))))
                        rw [show nmL s m evn k ++ [nm s m (2 * k)] = nmL s m evn (k + 1) from nmL_succ s m evn k, show nmL s m odd1 k ++ [nm s m (2 * k + 1)] = nmL s m odd1 (k + 1) from nmL_succ s m odd1 k] at hM
                        rw [show (nmL s m evn k).sum + nm s m (2 * k) = (nmL s m evn (k + 1)).sum from (nmL_sumS s m evn k).symm] at hA
                        replace hM := hM.front (k := 4) rfl
                        replace hM := hM.front (k := 4) rfl
                        replace hM := hM.front (k := 4) rfl
                        replace hM := hM.front (k := 4) rfl
                        replace hM := hM.front (k := 4) rfl
                        replace hM := hM.firstN 5
                        exact hNext ((k + 1, a38, c39, a43, c44)) _ _ ((by show n.toNat - (k + 1) < n.toNat - k; omega)) ⟨hA.sub ((.cons rfl (.cons rfl (.cons rfl (.cons rfl (.cons rfl (.cons rfl (.cons rfl (.cons rfl (.cons rfl .nil)))))))))), hM, (by omega)⟩
                      ·
                        refine D.buildSl (cells := #[.int .i64 (nm s m (2 * k + 1))]) hA hM rfl Try.underlying40 info3 rfl rfl rfl rfl (by kernel_rfl) rfl ?_; clear hA hM a; intro b46 w34 hb47 hM; refine ⟨(fun hM => (((hM.drop 3).drop 2).drop 0)) hM.tail, fun a hA => ?_⟩
                        replace hM : Mem _ _ [pt b46 #[.int .i64 (nm s m (2 * k + 1))] 3, pt b36 #[.int .i64 (nm s m (2 * k))] 3, pt b6 #[.int .i64 kd, .int .i64 n, .int .i64 0, .slice aw ((nmL s m evn k).length) cw, .slice av ((nmL s m odd1 k).length) cv, .slice none 0 0] 56, own 3 1 (.slice aw (((nmL s m evn k)).length) cw) (((nmL s m evn k)).length) (((nmL s m evn k)).map (Value.int .i64)), own 3 1 (.slice av (((nmL s m odd1 k)).length) cv) (((nmL s m odd1 k)).length) (((nmL s m odd1 k)).map (Value.int .i64)), own 3 1 (.slice la (((nmL s m idn (2 * n.toNat))).length) lc) (((nmL s m idn (2 * n.toNat))).length) (((nmL s m idn (2 * n.toNat))).map (Value.int .i64)), pt b1 #[.int .i64 0, .int .i64 0, .int .i64 0, .slice none 0 0, .slice none 0 0, .slice none 0 0] 56] _ := hM
                        refine D.append (k := 3) (k2 := 1) hA hM rfl rfl rfl Try.underlying40 info3 rfl rfl rfl rfl rfl rfl rfl rfl rfl (by first | omega | (simp only [nmL_len, rowF_len]; show (_ + 1) * 8 ≤ 140737488355328; omega) | (simp only [nmL_len, rowF_len]; unfold maxLen; omega) | (show (_ + 1) * 24 ≤ 140737488355328; omega) | (unfold maxLen; omega)) (by first | omega | (simp only [nmL_len, rowF_len]; show (_ + 1) * 8 ≤ 140737488355328; omega) | (simp only [nmL_len, rowF_len]; unfold maxLen; omega) | (show (_ + 1) * 24 ≤ 140737488355328; omega) | (unfold maxLen; omega)) rfl ?_; clear hA hM a; intro a48 c49 w35 hM
                        replace hM : Mem _ _ [pt b46 #[.int .i64 (nm s m (2 * k + 1))] 3, pt b36 #[.int .i64 (nm s m (2 * k))] 3, pt b6 #[.int .i64 kd, .int .i64 n, .int .i64 0, .slice aw ((nmL s m evn k).length) cw, .slice av ((nmL s m odd1 k).length) cv, .slice none 0 0] 56, own 3 1 (.slice a48 ((((nmL s m evn k)).length) + 1) c49) ((((nmL s m evn k)).length) + 1) (((nmL s m evn k)).map (Value.int .i64) ++ [.int .i64 (nm s m (2 * k))]), own 3 1 (.slice av (((nmL s m odd1 k)).length) cv) (((nmL s m odd1 k)).length) (((nmL s m odd1 k)).map (Value.int .i64)), own 3 1 (.slice la (((nmL s m idn (2 * n.toNat))).length) lc) (((nmL s m idn (2 * n.toNat))).length) (((nmL s m idn (2 * n.toNat))).map (Value.int .i64)), pt b1 #[.int .i64 0, .int .i64 0, .int .i64 0, .slice none 0 0, .slice none 0 0, .slice none 0 0] 56] _ := hM
                        have hl50 : (((nmL s m evn k)).length) + 1 = ((nmL s m evn k) ++ [nm s m (2 * k)]).length := by simp
                        rw [hl50, show ((nmL s m evn k)).map (Value.int .i64) ++ [.int .i64 (nm s m (2 * k))] = ((nmL s m evn k) ++ [nm s m (2 * k)]).map (Value.int .i64) by simp] at hM
                        replace hM := hM.drop 1
                        replace hM : Mem _ _ [pt b46 #[.int .i64 (nm s m (2 * k + 1))] 3, pt b6 #[.int .i64 kd, .int .i64 n, .int .i64 0, .slice aw ((nmL s m evn k).length) cw, .slice av ((nmL s m odd1 k).length) cv, .slice none 0 0] 56, own 3 1 (.slice a48 ((((nmL s m evn k) ++ [nm s m (2 * k)])).length) c49) ((((nmL s m evn k) ++ [nm s m (2 * k)])).length) ((((nmL s m evn k) ++ [nm s m (2 * k)])).map (Value.int .i64)), own 3 1 (.slice av (((nmL s m odd1 k)).length) cv) (((nmL s m odd1 k)).length) (((nmL s m odd1 k)).map (Value.int .i64)), own 3 1 (.slice la (((nmL s m idn (2 * n.toNat))).length) lc) (((nmL s m idn (2 * n.toNat))).length) (((nmL s m idn (2 * n.toNat))).map (Value.int .i64)), pt b1 #[.int .i64 0, .int .i64 0, .int .i64 0, .slice none 0 0, .slice none 0 0, .slice none 0 0] 56] _ := hM
                        refine ⟨(((hM.drop 3).drop 2).drop 0), fun a hA => ?_⟩; rw [hl50] at hA; clear hl50
                        refine D.valF hA rfl (fun _ => R.fieldAddr (q := 3) fi56_3 rfl rfl rfl) rfl ?_; clear hA a; intro a hA
                        refine D.append (k := 3) (k2 := 0) hA hM rfl rfl rfl Try.underlying40 info3 rfl rfl rfl rfl rfl rfl rfl rfl rfl (by first | omega | (simp only [nmL_len, rowF_len]; show (_ + 1) * 8 ≤ 140737488355328; omega) | (simp only [nmL_len, rowF_len]; unfold maxLen; omega) | (show (_ + 1) * 24 ≤ 140737488355328; omega) | (unfold maxLen; omega)) (by first | omega | (simp only [nmL_len, rowF_len]; show (_ + 1) * 8 ≤ 140737488355328; omega) | (simp only [nmL_len, rowF_len]; unfold maxLen; omega) | (show (_ + 1) * 24 ≤ 140737488355328; omega) | (unfold maxLen; omega)) rfl ?_; clear hA hM a; intro a51 c52 w36 hM
                        replace hM : Mem _ _ [pt b46 #[.int .i64 (nm s m (2 * k + 1))] 3, pt b6 #[.int .i64 kd, .int .i64 n, .int .i64 0, .slice aw ((nmL s m evn k).length) cw, .slice av ((nmL s m odd1 k).length) cv, .slice none 0 0] 56, own 3 1 (.slice a48 ((((nmL s m evn k) ++ [nm s m (2 * k)])).length) c49) ((((nmL s m evn k) ++ [nm s m (2 * k)])).length) ((((nmL s m evn k) ++ [nm s m (2 * k)])).map (Value.int .i64)), own 3 1 (.slice a51 ((((nmL s m odd1 k)).length) + 1) c52) ((((nmL s m odd1 k)).length) + 1) (((nmL s m odd1 k)).map (Value.int .i64) ++ [.int .i64 (nm s m (2 * k + 1))]), own 3 1 (.slice la (((nmL s m idn (2 * n.toNat))).length) lc) (((nmL s m idn (2 * n.toNat))).length) (((nmL s m idn (2 * n.toNat))).map (Value.int .i64)), pt b1 #[.int .i64 0, .int .i64 0, .int .i64 0, .slice none 0 0, .slice none 0 0, .slice none 0 0] 56] _ := hM
                        have hl53 : (((nmL s m odd1 k)).length) + 1 = ((nmL s m odd1 k) ++ [nm s m (2 * k + 1)]).length := by simp
                        rw [hl53, show ((nmL s m odd1 k)).map (Value.int .i64) ++ [.int .i64 (nm s m (2 * k + 1))] = ((nmL s m odd1 k) ++ [nm s m (2 * k + 1)]).map (Value.int .i64) by simp] at hM
                        replace hM := hM.drop 0
                        replace hM : Mem _ _ [pt b6 #[.int .i64 kd, .int .i64 n, .int .i64 0, .slice aw ((nmL s m evn k).length) cw, .slice av ((nmL s m odd1 k).length) cv, .slice none 0 0] 56, own 3 1 (.slice a48 ((((nmL s m evn k) ++ [nm s m (2 * k)])).length) c49) ((((nmL s m evn k) ++ [nm s m (2 * k)])).length) ((((nmL s m evn k) ++ [nm s m (2 * k)])).map (Value.int .i64)), own 3 1 (.slice a51 ((((nmL s m odd1 k) ++ [nm s m (2 * k + 1)])).length) c52) ((((nmL s m odd1 k) ++ [nm s m (2 * k + 1)])).length) ((((nmL s m odd1 k) ++ [nm s m (2 * k + 1)])).map (Value.int .i64)), own 3 1 (.slice la (((nmL s m idn (2 * n.toNat))).length) lc) (((nmL s m idn (2 * n.toNat))).length) (((nmL s m idn (2 * n.toNat))).map (Value.int .i64)), pt b1 #[.int .i64 0, .int .i64 0, .int .i64 0, .slice none 0 0, .slice none 0 0, .slice none 0 0] 56] _ := hM
                        refine ⟨((hM.drop 2).drop 1), fun a hA => ?_⟩; rw [hl53] at hA; clear hl53
                        refine D.store (k := 0) hA hM rfl sz40 rfl rfl rfl rfl rfl ?_; clear hM
                        intro w37 hM; refine ⟨fun _ hne => absurd rfl hne, ?_⟩
                        replace hM : Mem _ _ [pt b6 #[.int .i64 kd, .int .i64 n, .int .i64 0, .slice a48 ((((nmL s m evn k) ++ [nm s m (2 * k)])).length) c49, .slice av ((nmL s m odd1 k).length) cv, .slice none 0 0] 56, own 3 1 (.slice a48 ((((nmL s m evn k) ++ [nm s m (2 * k)])).length) c49) ((((nmL s m evn k) ++ [nm s m (2 * k)])).length) ((((nmL s m evn k) ++ [nm s m (2 * k)])).map (Value.int .i64)), own 3 1 (.slice a51 ((((nmL s m odd1 k) ++ [nm s m (2 * k + 1)])).length) c52) ((((nmL s m odd1 k) ++ [nm s m (2 * k + 1)])).length) ((((nmL s m odd1 k) ++ [nm s m (2 * k + 1)])).map (Value.int .i64)), own 3 1 (.slice la (((nmL s m idn (2 * n.toNat))).length) lc) (((nmL s m idn (2 * n.toNat))).length) (((nmL s m idn (2 * n.toNat))).map (Value.int .i64)), pt b1 #[.int .i64 0, .int .i64 0, .int .i64 0, .slice none 0 0, .slice none 0 0, .slice none 0 0] 56] _ := hM
                        refine D.valF hA rfl (fun _ => R.fieldAddr (q := 4) fi56_4 rfl rfl rfl) rfl ?_; clear hA a; intro a hA
                        refine D.store (k := 0) hA hM rfl sz40 rfl rfl rfl rfl rfl ?_; clear hM
                        intro w38 hM; refine ⟨fun hb0 => absurd hb0 (by decide), ?_⟩
                        replace hM : Mem _ _ [pt b6 #[.int .i64 kd, .int .i64 n, .int .i64 0, .slice a48 ((((nmL s m evn k) ++ [nm s m (2 * k)])).length) c49, .slice a51 ((((nmL s m odd1 k) ++ [nm s m (2 * k + 1)])).length) c52, .slice none 0 0] 56, own 3 1 (.slice a48 ((((nmL s m evn k) ++ [nm s m (2 * k)])).length) c49) ((((nmL s m evn k) ++ [nm s m (2 * k)])).length) ((((nmL s m evn k) ++ [nm s m (2 * k)])).map (Value.int .i64)), own 3 1 (.slice a51 ((((nmL s m odd1 k) ++ [nm s m (2 * k + 1)])).length) c52) ((((nmL s m odd1 k) ++ [nm s m (2 * k + 1)])).length) ((((nmL s m odd1 k) ++ [nm s m (2 * k + 1)])).map (Value.int .i64)), own 3 1 (.slice la (((nmL s m idn (2 * n.toNat))).length) lc) (((nmL s m idn (2 * n.toNat))).length) (((nmL s m idn (2 * n.toNat))).map (Value.int .i64)), pt b1 #[.int .i64 0, .int .i64 0, .int .i64 0, .slice none 0 0, .slice none 0 0, .slice none 0 0] 56] _ := hM
                        refine D.done ?_
                        replace hA : St 139 [(0, _), (1, _), (2, _), (3, _), (8, _), (10, _), (11, _), (13, _), (14, _)] a := hA.sub ((.cons rfl (.cons rfl (.cons rfl (.cons rfl (.cons rfl (.cons rfl (.cons rfl (.cons rfl (.cons rfl .nil))))))))))
                        refine Ends.region ?_
                        refine S.val hA (R.move rfl) rfl ?_; clear hA a; intro a hA
                        refine S.val hA (R.move rfl) rfl ?_; clear hA a; intro a hA
                        refine S.val hA (R.move rfl) rfl ?_; clear hA a; intro a hA
                        refine S.val hA (R.mulI rfl rfl (r := 2 * ((k : Int))) rfl (by first | omega | (rw [nmL_len]; omega))) rfl ?_; clear hA a; intro a hA
                        refine S.val hA (R.idxI (hM.rsl (k := 3) rfl) (j := 2 * k) sl40 rfl rfl (by first | omega | (rw [nmL_len]; omega)) (by first | omega | (rw [nmL_len]; omega))) rfl ?_; clear hA a; intro a hA
                        refine S.val hA (R.to (v := .int .i64 (nm s m (2 * k))) (R.loadI (hM.rsl (k := 3) rfl) sz3 rfl (by rw [nmL_len]; omega)) (congrArg (Value.int .i64) (nmL_get s m idn (by omega)))) rfl ?_; clear hA a; intro a hA
                        refine S.val hA (R.addI rfl rfl (r := ((nmL s m evn k).sum) + (nm s m (2 * k))) rfl (by first | omega | (rw [nmL_len]; omega))) rfl ?_; clear hA a; intro a hA
                        refine S.val hA (R.assign rfl) rfl ?_; clear hA a; intro a hA
                        refine S.done ?_
                        replace hA : St 139 [(0, _), (1, _), (2, _), (3, _), (8, _), (10, _), (11, _), (13, _), (14, _)] a := hA.sub ((.cons rfl (.cons rfl (.cons rfl (.cons rfl (.cons rfl (.cons rfl (.cons rfl (.cons rfl (.cons rfl .nil))))))))))
                        refine Ends.inBlock ?_
                        refine Ends.region ?_
                        refine S.val hA (R.move rfl) rfl ?_; clear hA a; intro a hA
                        refine S.val hA (R.addI rfl rfl (r := ((k : Int)) + 1) rfl (by first | omega | (rw [nmL_len]; omega))) rfl ?_; clear hA a; intro a hA
                        refine S.val hA (R.assign rfl) rfl ?_; clear hA a; intro a hA
                        refine S.done ?_
                        replace hA : St 139 [(0, _), (1, _), (2, _), (3, _), (8, _), (10, _), (11, _), (13, _), (14, _)] a := hA.sub ((.cons rfl (.cons rfl (.cons rfl (.cons rfl (.cons rfl (.cons rfl (.cons rfl (.cons rfl (.cons rfl .nil))))))))))
                        rw [show nmL s m evn k ++ [nm s m (2 * k)] = nmL s m evn (k + 1) from nmL_succ s m evn k, show nmL s m odd1 k ++ [nm s m (2 * k + 1)] = nmL s m odd1 (k + 1) from nmL_succ s m odd1 k] at hM
                        rw [show (nmL s m evn k).sum + nm s m (2 * k) = (nmL s m evn (k + 1)).sum from (nmL_sumS s m evn k).symm] at hA
                        replace hM := hM.front (k := 4) rfl
                        replace hM := hM.front (k := 4) rfl
                        replace hM := hM.front (k := 4) rfl
                        replace hM := hM.front (k := 4) rfl
                        replace hM := hM.front (k := 4) rfl
                        replace hM := hM.firstN 5
                        exact hNext ((k + 1, a48, c49, a51, c52)) _ _ ((by show n.toNat - (k + 1) < n.toNat - k; omega)) ⟨hA.sub ((.cons rfl (.cons rfl (.cons rfl (.cons rfl (.cons rfl (.cons rfl (.cons rfl (.cons rfl (.cons rfl .nil)))))))))), hM, (by omega)⟩
                    ·
                      refine D.buildSl (cells := #[.int .i64 (nm s m (2 * k + 1))]) hA hM rfl Try.underlying40 info3 rfl rfl rfl rfl (by kernel_rfl) rfl ?_; clear hA hM a; intro b54 w39 hb55 hM; refine ⟨(fun hM => ((hM.drop 2).drop 1)) hM.tail, fun a hA => ?_⟩
                      replace hM : Mem _ _ [pt b54 #[.int .i64 (nm s m (2 * k + 1))] 3, pt b6 #[.int .i64 kd, .int .i64 n, .int .i64 0, .slice aw ((nmL s m evn k).length) cw, .slice av ((nmL s m odd1 k).length) cv, .slice none 0 0] 56, own 3 1 (.slice aw (((nmL s m evn k)).length) cw) (((nmL s m evn k)).length) (((nmL s m evn k)).map (Value.int .i64)), own 3 1 (.slice av (((nmL s m odd1 k)).length) cv) (((nmL s m odd1 k)).length) (((nmL s m odd1 k)).map (Value.int .i64)), own 3 1 (.slice la (((nmL s m idn (2 * n.toNat))).length) lc) (((nmL s m idn (2 * n.toNat))).length) (((nmL s m idn (2 * n.toNat))).map (Value.int .i64)), pt b1 #[.int .i64 0, .int .i64 0, .int .i64 0, .slice none 0 0, .slice none 0 0, .slice none 0 0] 56] _ := hM
                      refine D.buildSl (cells := #[.int .i64 (nm s m (2 * k))]) hA hM rfl Try.underlying40 info3 rfl rfl rfl rfl (by kernel_rfl) rfl ?_; clear hA hM a; intro b56 w40 hb57 hM; refine ⟨(fun hM => (((hM.drop 3).drop 2).drop 0)) hM.tail, fun a hA => ?_⟩
                      replace hM : Mem _ _ [pt b56 #[.int .i64 (nm s m (2 * k))] 3, pt b54 #[.int .i64 (nm s m (2 * k + 1))] 3, pt b6 #[.int .i64 kd, .int .i64 n, .int .i64 0, .slice aw ((nmL s m evn k).length) cw, .slice av ((nmL s m odd1 k).length) cv, .slice none 0 0] 56, own 3 1 (.slice aw (((nmL s m evn k)).length) cw) (((nmL s m evn k)).length) (((nmL s m evn k)).map (Value.int .i64)), own 3 1 (.slice av (((nmL s m odd1 k)).length) cv) (((nmL s m odd1 k)).length) (((nmL s m odd1 k)).map (Value.int .i64)), own 3 1 (.slice la (((nmL s m idn (2 * n.toNat))).length) lc) (((nmL s m idn (2 * n.toNat))).length) (((nmL s m idn (2 * n.toNat))).map (Value.int .i64)), pt b1 #[.int .i64 0, .int .i64 0, .int .i64 0, .slice none 0 0, .slice none 0 0, .slice none 0 0] 56] _ := hM
                      refine D.append (k := 3) (k2 := 0) hA hM rfl rfl rfl Try.underlying40 info3 rfl rfl rfl rfl rfl rfl rfl rfl rfl (by first | omega | (simp only [nmL_len, rowF_len]; show (_ + 1) * 8 ≤ 140737488355328; omega) | (simp only [nmL_len, rowF_len]; unfold maxLen; omega) | (show (_ + 1) * 24 ≤ 140737488355328; omega) | (unfold maxLen; omega)) (by first | omega | (simp only [nmL_len, rowF_len]; show (_ + 1) * 8 ≤ 140737488355328; omega) | (simp only [nmL_len, rowF_len]; unfold maxLen; omega) | (show (_ + 1) * 24 ≤ 140737488355328; omega) | (unfold maxLen; omega)) rfl ?_; clear hA hM a; intro a58 c59 w41 hM
                      replace hM : Mem _ _ [pt b56 #[.int .i64 (nm s m (2 * k))] 3, pt b54 #[.int .i64 (nm s m (2 * k + 1))] 3, pt b6 #[.int .i64 kd, .int .i64 n, .int .i64 0, .slice aw ((nmL s m evn k).length) cw, .slice av ((nmL s m odd1 k).length) cv, .slice none 0 0] 56, own 3 1 (.slice a58 ((((nmL s m evn k)).length) + 1) c59) ((((nmL s m evn k)).length) + 1) (((nmL s m evn k)).map (Value.int .i64) ++ [.int .i64 (nm s m (2 * k))]), own 3 1 (.slice av (((nmL s m odd1 k)).length) cv) (((nmL s m odd1 k)).length) (((nmL s m odd1 k)).map (Value.int .i64)), own 3 1 (.slice la (((nmL s m idn (2 * n.toNat))).length) lc) (((nmL s m idn (2 * n.toNat))).length) (((nmL s m idn (2 * n.toNat))).map (Value.int .i64)), pt b1 #[.int .i64 0, .int .i64 0, .int .i64 0, .slice none 0 0, .slice none 0 0, .slice none 0 0] 56] _ := hM
                      have hl60 : (((nmL s m evn k)).length) + 1 = ((nmL s m evn k) ++ [nm s m (2 * k)]).length := by simp
                      rw [hl60, show ((nmL s m evn k)).map (Value.int .i64) ++ [.int .i64 (nm s m (2 * k))] = ((nmL s m evn k) ++ [nm s m (2 * k)]).map (Value.int .i64) by simp] at hM
                      replace hM := hM.drop 0
                      replace hM : Mem _ _ [pt b54 #[.int .i64 (nm s m (2 * k + 1))] 3, pt b6 #[.int .i64 kd, .int .i64 n, .int .i64 0, .slice aw ((nmL s m evn k).length) cw, .slice av ((nmL s m odd1 k).length) cv, .slice none 0 0] 56, own 3 1 (.slice a58 ((((nmL s m evn k) ++ [nm s m (2 * k)])).length) c59) ((((nmL s m evn k) ++ [nm s m (2 * k)])).length) ((((nmL s m evn k) ++ [nm s m (2 * k)])).map (Value.int .i64)), own 3 1 (.slice av (((nmL s m odd1 k)).length) cv) (((nmL s m odd1 k)).length) (((nmL s m odd1 k)).map (Value.int .i64)), own 3 1 (.slice la (((nmL s m idn (2 * n.toNat))).length) lc) (((nmL s m idn (2 * n.toNat))).length) (((nmL s m idn (2 * n.toNat))).map (Value.int .i64)), pt b1 #[.int .i64 0, .int .i64 0, .int .i64 0, .slice none 0 0, .slice none 0 0, .slice none 0 0] 56] _ := hM
                      refine ⟨(((hM.drop 3).drop 2).drop 0), fun a hA => ?_⟩; rw [hl60] at hA; clear hl60
                      refine D.valF hA rfl (fun _ => R.fieldAddr (q := 3) fi56_3 rfl rfl rfl) rfl ?_; clear hA a; intro a hA
                      refine D.append (k := 3) (k2 := 0) hA hM rfl rfl rfl Try.underlying40 info3 rfl rfl rfl rfl rfl rfl rfl rfl rfl (by first | omega | (simp only [nmL_len, rowF_len]; show (_ + 1) * 8 ≤ 140737488355328; omega) | (simp only [nmL_len, rowF_len]; unfold maxLen; omega) | (show (_ + 1) * 24 ≤ 140737488355328; omega) | (unfold maxLen; omega)) (by first | omega | (simp only [nmL_len, rowF_len]; show (_ + 1) * 8 ≤ 140737488355328; omega) | (simp only [nmL_len, rowF_len]; unfold maxLen; omega) | (show (_ + 1) * 24 ≤ 140737488355328; omega) | (unfold maxLen; omega)) rfl ?_; clear hA hM a; intro a61 c62 w42 hM
                      replace hM : Mem _ _ [pt b54 #[.int .i64 (nm s m (2 * k + 1))] 3, pt b6 #[.int .i64 kd, .int .i64 n, .int .i64 0, .slice aw ((nmL s m evn k).length) cw, .slice av ((nmL s m odd1 k).length) cv, .slice none 0 0] 56, own 3 1 (.slice a58 ((((nmL s m evn k) ++ [nm s m (2 * k)])).length) c59) ((((nmL s m evn k) ++ [nm s m (2 * k)])).length) ((((nmL s m evn k) ++ [nm s m (2 * k)])).map (Value.int .i64)), own 3 1 (.slice a61 ((((nmL s m odd1 k)).length) + 1) c62) ((((nmL s m odd1 k)).length) + 1) (((nmL s m odd1 k)).map (Value.int .i64) ++ [.int .i64 (nm s m (2 * k + 1))]), own 3 1 (.slice la (((nmL s m idn (2 * n.toNat))).length) lc) (((nmL s m idn (2 * n.toNat))).length) (((nmL s m idn (2 * n.toNat))).map (Value.int .i64)), pt b1 #[.int .i64 0, .int .i64 0, .int .i64 0, .slice none 0 0, .slice none 0 0, .slice none 0 0] 56] _ := hM
                      have hl63 : (((nmL s m odd1 k)).length) + 1 = ((nmL s m odd1 k) ++ [nm s m (2 * k + 1)]).length := by simp
                      rw [hl63, show ((nmL s m odd1 k)).map (Value.int .i64) ++ [.int .i64 (nm s m (2 * k + 1))] = ((nmL s m odd1 k) ++ [nm s m (2 * k + 1)]).map (Value.int .i64) by simp] at hM
                      replace hM := hM.drop 0
                      replace hM : Mem _ _ [pt b6 #[.int .i64 kd, .int .i64 n, .int .i64 0, .slice aw ((nmL s m evn k).length) cw, .slice av ((nmL s m odd1 k).length) cv, .slice none 0 0] 56, own 3 1 (.slice a58 ((((nmL s m evn k) ++ [nm s m (2 * k)])).length) c59) ((((nmL s m evn k) ++ [nm s m (2 * k)])).length) ((((nmL s m evn k) ++ [nm s m (2 * k)])).map (Value.int .i64)), own 3 1 (.slice a61 ((((nmL s m odd1 k) ++ [nm s m (2 * k + 1)])).length) c62) ((((nmL s m odd1 k) ++ [nm s m (2 * k + 1)])).length) ((((nmL s m odd1 k) ++ [nm s m (2 * k + 1)])).map (Value.int .i64)), own 3 1 (.slice la (((nmL s m idn (2 * n.toNat))).length) lc) (((nmL s m idn (2 * n.toNat))).length) (((nmL s m idn (2 * n.toNat))).map (Value.int .i64)), pt b1 #[.int .i64 0, .int .i64 0, .int .i64 0, .slice none 0 0, .slice none 0 0, .slice none 0 0] 56] _ := hM
                      refine ⟨((hM.drop 2).drop 1), fun a hA => ?_⟩; rw [hl63] at hA; clear hl63
                      refine D.store (k := 0) hA hM rfl sz40 rfl rfl rfl rfl rfl ?_; clear hM
                      intro w43 hM; refine ⟨fun _ hne => absurd rfl hne, ?_⟩
                      replace hM : Mem _ _ [pt b6 #[.int .i64 kd, .int .i64 n, .int .i64 0, .slice a58 ((((nmL s m evn k) ++ [nm s m (2 * k)])).length) c59, .slice av ((nmL s m odd1 k).length) cv, .slice none 0 0] 56, own 3 1 (.slice a58 ((((nmL s m evn k) ++ [nm s m (2 * k)])).length) c59) ((((nmL s m evn k) ++ [nm s m (2 * k)])).length) ((((nmL s m evn k) ++ [nm s m (2 * k)])).map (Value.int .i64)), own 3 1 (.slice a61 ((((nmL s m odd1 k) ++ [nm s m (2 * k + 1)])).length) c62) ((((nmL s m odd1 k) ++ [nm s m (2 * k + 1)])).length) ((((nmL s m odd1 k) ++ [nm s m (2 * k + 1)])).map (Value.int .i64)), own 3 1 (.slice la (((nmL s m idn (2 * n.toNat))).length) lc) (((nmL s m idn (2 * n.toNat))).length) (((nmL s m idn (2 * n.toNat))).map (Value.int .i64)), pt b1 #[.int .i64 0, .int .i64 0, .int .i64 0, .slice none 0 0, .slice none 0 0, .slice none 0 0] 56] _ := hM
                      refine D.valF hA rfl (fun _ => R.fieldAddr (q := 4) fi56_4 rfl rfl rfl) rfl ?_; clear hA a; intro a hA
                      refine D.store (k := 0) hA hM rfl sz40 rfl rfl rfl rfl rfl ?_; clear hM
                      intro w44 hM; refine ⟨fun hb0 => absurd hb0 (by decide), ?_⟩
                      replace hM : Mem _ _ [pt b6 #[.int .i64 kd, .int .i64 n, .int .i64 0, .slice a58 ((((nmL s m evn k) ++ [nm s m (2 * k)])).length) c59, .slice a61 ((((nmL s m odd1 k) ++ [nm s m (2 * k + 1)])).length) c62, .slice none 0 0] 56, own 3 1 (.slice a58 ((((nmL s m evn k) ++ [nm s m (2 * k)])).length) c59) ((((nmL s m evn k) ++ [nm s m (2 * k)])).length) ((((nmL s m evn k) ++ [nm s m (2 * k)])).map (Value.int .i64)), own 3 1 (.slice a61 ((((nmL s m odd1 k) ++ [nm s m (2 * k + 1)])).length) c62) ((((nmL s m odd1 k) ++ [nm s m (2 * k + 1)])).length) ((((nmL s m odd1 k) ++ [nm s m (2 * k + 1)])).map (Value.int .i64)), own 3 1 (.slice la (((nmL s m idn (2 * n.toNat))).length) lc) (((nmL s m idn (2 * n.toNat))).length) (((nmL s m idn (2 * n.toNat))).map (Value.int .i64)), pt b1 #[.int .i64 0, .int .i64 0, .int .i64 0, .slice none 0 0, .slice none 0 0, .slice none 0 0] 56] _ := hM
                      refine D.done ?_
                      replace hA : St 139 [(0, _), (1, _), (2, _), (3, _), (8, _), (10, _), (11, _), (13, _), (14, _)] a := hA.sub ((.cons rfl (.cons rfl (.cons rfl (.cons rfl (.cons rfl (.cons rfl (.cons rfl (.cons rfl (.cons rfl .nil))))))))))
                      refine Ends.region ?_
                      refine S.val hA (R.move rfl) rfl ?_; clear hA a; intro a hA
                      refine S.val hA (R.move rfl) rfl ?_; clear hA a; intro a hA
                      refine S.val hA (R.move rfl) rfl ?_; clear hA a; intro a hA
                      refine S.val hA (R.mulI rfl rfl (r := 2 * ((k : Int))) rfl (by first | omega | (rw [nmL_len]; omega))) rfl ?_; clear hA a; intro a hA
                      refine S.val hA (R.idxI (hM.rsl (k := 3) rfl) (j := 2 * k) sl40 rfl rfl (by first | omega | (rw [nmL_len]; omega)) (by first | omega | (rw [nmL_len]; omega))) rfl ?_; clear hA a; intro a hA
                      refine S.val hA (R.to (v := .int .i64 (nm s m (2 * k))) (R.loadI (hM.rsl (k := 3) rfl) sz3 rfl (by rw [nmL_len]; omega)) (congrArg (Value.int .i64) (nmL_get s m idn (by omega)))) rfl ?_; clear hA a; intro a hA
                      refine S.val hA (R.addI rfl rfl (r := ((nmL s m evn k).sum) + (nm s m (2 * k))) rfl (by first | omega | (rw [nmL_len]; omega))) rfl ?_; clear hA a; intro a hA
                      refine S.val hA (R.assign rfl) rfl ?_; clear hA a; intro a hA
                      refine S.done ?_
                      replace hA : St 139 [(0, _), (1, _), (2, _), (3, _), (8, _), (10, _), (11, _), (13, _), (14, _)] a := hA.sub ((.cons rfl (.cons rfl (.cons rfl (.cons rfl (.cons rfl (.cons rfl (.cons rfl (.cons rfl (.cons rfl .nil))))))))))
                      refine Ends.inBlock ?_
                      refine Ends.region ?_
                      refine S.val hA (R.move rfl) rfl ?_; clear hA a; intro a hA
                      refine S.val hA (R.addI rfl rfl (r := ((k : Int)) + 1) rfl (by first | omega | (rw [nmL_len]; omega))) rfl ?_; clear hA a; intro a hA
                      refine S.val hA (R.assign rfl) rfl ?_; clear hA a; intro a hA
                      refine S.done ?_
                      replace hA : St 139 [(0, _), (1, _), (2, _), (3, _), (8, _), (10, _), (11, _), (13, _), (14, _)] a := hA.sub ((.cons rfl (.cons rfl (.cons rfl (.cons rfl (.cons rfl (.cons rfl (.cons rfl (.cons rfl (.cons rfl .nil))))))))))
                      rw [show nmL s m evn k ++ [nm s m (2 * k)] = nmL s m evn (k + 1) from nmL_succ s m evn k, show nmL s m odd1 k ++ [nm s m (2 * k + 1)] = nmL s m odd1 (k + 1) from nmL_succ s m odd1 k] at hM
                      rw [show (nmL s m evn k).sum + nm s m (2 * k) = (nmL s m evn (k + 1)).sum from (nmL_sumS s m evn k).symm] at hA
                      replace hM := hM.front (k := 4) rfl
                      replace hM := hM.front (k := 4) rfl
                      replace hM := hM.front (k := 4) rfl
                      replace hM := hM.front (k := 4) rfl
                      replace hM := hM.front (k := 4) rfl
                      replace hM := hM.firstN 5
                      exact hNext ((k + 1, a58, c59, a61, c62)) _ _ ((by show n.toNat - (k + 1) < n.toNat - k; omega)) ⟨hA.sub ((.cons rfl (.cons rfl (.cons rfl (.cons rfl (.cons rfl (.cons rfl (.cons rfl (.cons rfl (.cons rfl .nil)))))))))), hM, (by omega)⟩
                ·
                  rw [decide_eq_false hc9] at hA
                  obtain rfl : k = n.toNat := by omega
                  have hsm := nmL_sum s m evn hm n.toNat
                  refine Ends.exit rfl ?_
                  replace hA : St 139 [(0, _), (1, _), (2, _), (3, _), (8, _), (10, _), (13, _)] a := hA.sub ((.cons rfl (.cons rfl (.cons rfl (.cons rfl (.cons rfl (.cons rfl (.cons rfl .nil))))))))
                  refine Ends.seq ?_
                  refine Ends.region ?_
                  refine S.val hA (R.move rfl) rfl ?_; clear hA a; intro a hA
                  refine S.val hA (R.quoI rfl rfl (r := (nmL s m evn n.toNat).sum / 2) rfl (by omega)) rfl ?_; clear hA a; intro a hA
                  refine S.val hA (R.min rfl rfl) rfl ?_; clear hA a; intro a hA
                  refine S.val hA (R.fieldAddr (q := 2) fi56_2 rfl rfl rfl) rfl ?_; clear hA a; intro a hA
                  refine S.store (k := 0) hA hM sz3 rfl rfl rfl rfl rfl ?_; clear hM
                  intro w45 hM
                  replace hM : Mem _ _ [pt b6 #[.int .i64 kd, .int .i64 n, .int .i64 (min ((nmL s m evn n.toNat).sum / 2) 2147483647), .slice aw ((nmL s m evn n.toNat).length) cw, .slice av ((nmL s m odd1 n.toNat).length) cv, .slice none 0 0] 56, own 3 1 (.slice aw (((nmL s m evn n.toNat)).length) cw) (((nmL s m evn n.toNat)).length) (((nmL s m evn n.toNat)).map (Value.int .i64)), own 3 1 (.slice av (((nmL s m odd1 n.toNat)).length) cv) (((nmL s m odd1 n.toNat)).length) (((nmL s m odd1 n.toNat)).map (Value.int .i64)), own 3 1 (.slice la (((nmL s m idn (2 * n.toNat))).length) lc) (((nmL s m idn (2 * n.toNat))).length) (((nmL s m idn (2 * n.toNat))).map (Value.int .i64)), pt b1 #[.int .i64 0, .int .i64 0, .int .i64 0, .slice none 0 0, .slice none 0 0, .slice none 0 0] 56] _ := hM
                  refine S.done ?_
                  replace hA : St 139 [(0, _), (1, _), (2, _), (3, _), (8, _), (10, _)] a := hA.sub ((.cons rfl (.cons rfl (.cons rfl (.cons rfl (.cons rfl (.cons rfl .nil)))))))
                  refine Ends.seq ?_
                  refine Ends.region ?_
                  refine S.val hA (R.loadA sz56 rfl (hM.range (k := 0) rfl) rfl) rfl ?_; clear hA a; intro a hA
                  refine S.storeA (k := 4) hA hM sz56 rfl rfl rfl rfl rfl rfl ?_; clear hM
                  intro w46 hM
                  replace hM : Mem _ _ [pt b6 #[.int .i64 kd, .int .i64 n, .int .i64 (min ((nmL s m evn n.toNat).sum / 2) 2147483647), .slice aw ((nmL s m evn n.toNat).length) cw, .slice av ((nmL s m odd1 n.toNat).length) cv, .slice none 0 0] 56, own 3 1 (.slice aw (((nmL s m evn n.toNat)).length) cw) (((nmL s m evn n.toNat)).length) (((nmL s m evn n.toNat)).map (Value.int .i64)), own 3 1 (.slice av (((nmL s m odd1 n.toNat)).length) cv) (((nmL s m odd1 n.toNat)).length) (((nmL s m odd1 n.toNat)).map (Value.int .i64)), own 3 1 (.slice la (((nmL s m idn (2 * n.toNat))).length) lc) (((nmL s m idn (2 * n.toNat))).length) (((nmL s m idn (2 * n.toNat))).map (Value.int .i64)), pt b1 #[.int .i64 kd, .int .i64 n, .int .i64 (min ((nmL s m evn n.toNat).sum / 2) 2147483647), .slice aw ((nmL s m evn n.toNat).length) cw, .slice av ((nmL s m odd1 n.toNat).length) cv, .slice none 0 0] 56] _ := hM
                  refine S.val hA (R.assign rfl) rfl ?_; clear hA a; intro a hA
                  refine S.done ?_
                  replace hA : St 139 [(0, _), (1, _), (2, _), (3, _), (8, _), (9, _), (10, _)] a := hA.sub ((.cons rfl (.cons rfl (.cons rfl (.cons rfl (.cons rfl (.cons rfl (.cons rfl .nil))))))))
                  refine Ends.retC2 (k := 4) Try.func37 Try.results37 hA hM rfl rfl rfl sz56 rfl ?_
                  replace hM := hM.front (k := 2) rfl
                  replace hM := hM.front (k := 2) rfl
                  replace hM := hM.firstN 2
                  replace hM := ((hM.bundleNil (e := 3)).ownNil 40 1)
                  have hM1 := Mem.pack (cs := insL 3 40 (gK n m s) aw cw av cv none 0 []) (L := []) ((hM.front (k := 3) rfl).front (k := 3) rfl)
                  have hkd : kd = 1 := by omega
                  subst hkd
                  obtain ⟨rfl, rfl⟩ := gmk_sack hG (by omega) (by omega)
                  obtain ⟨he, hr⟩ := insR_of hM1 (k := 0) rfl rfl
                  exact ⟨_, _, _, _, _, _, congrArg (fun x => Ending.returned (.tuple #[x, .int .i64 0])) he, hr, Mem.trans0 hbs hM.nilL⟩
              ·
                rw [decide_eq_false hc8] at hA
                refine Ends.skip ?_
                refine Ends.seq ?_
                refine Ends.seq ?_
                refine Ends.region ?_
                refine S.val hA (R.assign rfl) rfl ?_; clear hA a; intro a hA
                refine S.done ?_
                replace hA : St 139 [(0, _), (1, _), (2, _), (3, _), (8, _), (10, _), (15, _)] a := hA.sub ((.cons rfl (.cons rfl (.cons rfl (.cons rfl (.cons rfl (.cons rfl (.cons rfl .nil))))))))
                refine Ends.block ?_
                replace hM := (hM.bundleNil (e := 3)).ownNil 40 1
                replace hM := hM.front (k := 3) rfl
                replace hM := hM.front (k := 2) rfl
                replace hM := hM.front (k := 2) rfl
                replace hM := hM.front (k := 3) rfl
                replace hM := hM.firstN 4
                replace hM : Mem _ _ [pt b6 #[.int .i64 kd, .int .i64 n, .int .i64 0, .slice none 0 0, .slice none 0 0, .slice none (([] : List OwR).length) 0] 56, own 40 1 (.slice none (([] : List OwR).length) 0) (([] : List OwR).length) ((([] : List OwR).map orV)), bundle (([] : List OwR).map (orC 3)), pt b1 #[.int .i64 0, .int .i64 0, .int .i64 0, .slice none 0 0, .slice none 0 0, .slice none 0 0] 56] _ := hM
                refine Ends.loop (σ := Nat × Option Addr × Nat × List OwR) (fun (ar, ao, co, rs) (a : Act) (wv : World) => St 139 [(0, .int .i64 kd), (1, .int .i64 n), (2, .int .i64 m), (3, .int .u64 (sd s (rt kd n.toNat * ar))), (8, .pointer (some ⟨b1, 0, none⟩)), (10, .pointer (some ⟨b6, 0, none⟩)), (15, .int .i64 ((ar : Int)))] a ∧ Mem w nof [pt b6 #[.int .i64 kd, .int .i64 n, .int .i64 0, .slice none 0 0, .slice none 0 0, .slice ao rs.length co] 56, own 40 1 (.slice ao rs.length co) rs.length ((rs.map orV)), bundle (rs.map (orC 3)), pt b1 #[.int .i64 0, .int .i64 0, .int .i64 0, .slice none 0 0, .slice none 0 0, .slice none 0 0] 56] wv ∧ (ar ≤ n.toNat) ∧ (rs.map (·.Y) = rowsF kd s m n.toNat ar)) (fun (ar, ao, co, rs) => n.toNat - ar) ((0, none, 0, [])) ⟨hA.sub ((.cons rfl (.cons rfl (.cons rfl (.cons rfl (.cons rfl (.cons rfl (.cons rfl .nil)))))))), hM, (Nat.zero_le _), rfl⟩ ?_
                clear hA hM a
                rintro ⟨ar, ao, co, rs⟩ a w47 ⟨hA, hM, ha, hY⟩ hNext1
                refine Ends.seq ?_
                refine Ends.seq ?_
                refine Ends.region ?_
                refine S.val hA (R.move rfl) rfl ?_; clear hA a; intro a hA
                refine S.val hA (R.move rfl) rfl ?_; clear hA a; intro a hA
                refine S.val hA (R.lss rfl rfl) rfl ?_; clear hA a; intro a hA
                refine S.done ?_
                replace hA : St 139 [(0, _), (1, _), (2, _), (3, _), (8, _), (10, _), (15, _), (102, _)] a := hA.sub ((.cons rfl (.cons rfl (.cons rfl (.cons rfl (.cons rfl (.cons rfl (.cons rfl (.cons rfl .nil)))))))))
                refine Ends.ite hA rfl (fun hc64 => ?_) (fun hc64 => ?_)
                ·
                  rw [decide_eq_true hc64] at hA
                  refine Ends.skip ?_
                  refine Ends.seq ?_
                  refine Ends.block ?_
                  refine Ends.seq ?_
                  refine Ends.region ?_
                  refine S.buildSl0 hA hM Try.underlying40 info3 rfl ?_; clear hA hM a; intro b65 w48 hb66 hM a hA
                  replace hM := hM.ownPt (cap := 0) (n := 0) (sz := 1) (xs := []) rfl (Nat.zero_le _) (Nat.le_refl _) rfl
                  replace hM : Mem _ _ [own 3 1 (.slice ((some ⟨b65, 0, none⟩)) 0 0) 0 ((([] : List Int)).map (Value.int .i64)), pt b6 #[.int .i64 kd, .int .i64 n, .int .i64 0, .slice none 0 0, .slice none 0 0, .slice ao rs.length co] 56, own 40 1 (.slice ao rs.length co) rs.length ((rs.map orV)), bundle (rs.map (orC 3)), pt b1 #[.int .i64 0, .int .i64 0, .int .i64 0, .slice none 0 0, .slice none 0 0, .slice none 0 0] 56] _ := hM
                  refine S.val hA (R.assign rfl) rfl ?_; clear hA a; intro a hA
                  refine S.done ?_
                  replace hA : St 139 [(0, _), (1, _), (2, _), (3, _), (8, _), (10, _), (15, _), (16, _)] a := hA.sub ((.cons rfl (.cons rfl (.cons rfl (.cons rfl (.cons rfl (.cons rfl (.cons rfl (.cons rfl .nil)))))))))
                  refine Ends.seq ?_
                  refine Ends.seq ?_
                  refine Ends.region ?_
                  refine S.val hA (R.assign rfl) rfl ?_; clear hA a; intro a hA
                  refine S.done ?_
                  replace hA : St 139 [(0, _), (1, _), (2, _), (3, _), (8, _), (10, _), (15, _), (16, _), (17, _)] a := hA.sub ((.cons rfl (.cons rfl (.cons rfl (.cons rfl (.cons rfl (.cons rfl (.cons rfl (.cons rfl (.cons rfl .nil))))))))))
                  refine Ends.block ?_
                  replace hM := hM.front (k := 4) rfl
                  replace hM := hM.front (k := 4) rfl
                  replace hM := hM.front (k := 4) rfl
                  replace hM := hM.front (k := 4) rfl
                  replace hM := hM.front (k := 4) rfl
                  have hln : rs.length = ar := by have := congrArg List.length hY; simpa [rowsF] using this
                  replace hM : Mem _ _ [own 3 1 (.slice ((some ⟨b65, 0, none⟩)) (((rowF kd s m n.toNat ar 0)).length) 0) (((rowF kd s m n.toNat ar 0)).length) (((rowF kd s m n.toNat ar 0)).map (Value.int .i64)), pt b6 #[.int .i64 kd, .int .i64 n, .int .i64 0, .slice none 0 0, .slice none 0 0, .slice ao rs.length co] 56, own 40 1 (.slice ao rs.length co) rs.length ((rs.map orV)), bundle (rs.map (orC 3)), pt b1 #[.int .i64 0, .int .i64 0, .int .i64 0, .slice none 0 0, .slice none 0 0, .slice none 0 0] 56] _ := hM
                  rw [show rt kd n.toNat * ar = rt kd n.toNat * ar + cb kd ar 0 by rw [cb_zero]; rfl] at hA
                  refine Ends.loop (σ := Nat × Option Addr × Nat) (fun (q, ra, rc) (a : Act) (wv : World) => St 139 [(0, .int .i64 kd), (1, .int .i64 n), (2, .int .i64 m), (3, .int .u64 (sd s (rt kd n.toNat * ar + cb kd ar q))), (8, .pointer (some ⟨b1, 0, none⟩)), (10, .pointer (some ⟨b6, 0, none⟩)), (15, .int .i64 ((ar : Int))), (16, .slice ra ((rowF kd s m n.toNat ar q).length) rc), (17, .int .i64 ((q : Int)))] a ∧ Mem w nof [own 3 1 (.slice ra (((rowF kd s m n.toNat ar q)).length) rc) (((rowF kd s m n.toNat ar q)).length) (((rowF kd s m n.toNat ar q)).map (Value.int .i64)), pt b6 #[.int .i64 kd, .int .i64 n, .int .i64 0, .slice none 0 0, .slice none 0 0, .slice ao rs.length co] 56, own 40 1 (.slice ao rs.length co) rs.length ((rs.map orV)), bundle (rs.map (orC 3)), pt b1 #[.int .i64 0, .int .i64 0, .int .i64 0, .slice none 0 0, .slice none 0 0, .slice none 0 0] 56] wv ∧ (q ≤ n.toNat)) (fun (q, ra, rc) => n.toNat - q) ((0, (some ⟨b65, 0, none⟩), 0)) ⟨hA.sub ((.cons rfl (.cons rfl (.cons rfl (.cons rfl (.cons rfl (.cons rfl (.cons rfl (.cons rfl (.cons rfl .nil)))))))))), hM, (Nat.zero_le _)⟩ ?_
                  clear hA hM a
                  rintro ⟨q, ra, rc⟩ a w49 ⟨hA, hM, hq⟩ hNext2
                  refine Ends.seq ?_
                  refine Ends.seq ?_
                  refine Ends.region ?_
                  refine S.val hA (R.move rfl) rfl ?_; clear hA a; intro a hA
                  refine S.val hA (R.move rfl) rfl ?_; clear hA a; intro a hA
                  refine S.val hA (R.lss rfl rfl) rfl ?_; clear hA a; intro a hA
                  refine S.done ?_
                  replace hA : St 139 [(0, _), (1, _), (2, _), (3, _), (8, _), (10, _), (15, _), (16, _), (17, _), (108, _)] a := hA.sub ((.cons rfl (.cons rfl (.cons rfl (.cons rfl (.cons rfl (.cons rfl (.cons rfl (.cons rfl (.cons rfl (.cons rfl .nil)))))))))))
                  refine Ends.ite hA rfl (fun hc67 => ?_) (fun hc67 => ?_)
                  ·
                    rw [decide_eq_true hc67] at hA
                    refine Ends.skip ?_
                    refine Ends.seq ?_
                    refine Ends.block ?_
                    refine Ends.seq ?_
                    refine Ends.seq ?_
                    refine Ends.cut (fun (a : Act) (wv : World) => St 139 [(0, .int .i64 kd), (1, .int .i64 n), (2, .int .i64 m), (3, .int .u64 (sd s (rt kd n.toNat * ar + cb kd ar q))), (8, .pointer (some ⟨b1, 0, none⟩)), (10, .pointer (some ⟨b6, 0, none⟩)), (15, .int .i64 ((ar : Int))), (16, .slice ra ((rowF kd s m n.toNat ar q).length) rc), (17, .int .i64 ((q : Int))), (117, .bool (decide ((kd = 3 ∧ ((ar : Int)) = ((q : Int))))))] a ∧ Mem w nof [own 3 1 (.slice ra (((rowF kd s m n.toNat ar q)).length) rc) (((rowF kd s m n.toNat ar q)).length) (((rowF kd s m n.toNat ar q)).map (Value.int .i64)), pt b6 #[.int .i64 kd, .int .i64 n, .int .i64 0, .slice none 0 0, .slice none 0 0, .slice ao rs.length co] 56, own 40 1 (.slice ao rs.length co) rs.length ((rs.map orV)), bundle (rs.map (orC 3)), pt b1 #[.int .i64 0, .int .i64 0, .int .i64 0, .slice none 0 0, .slice none 0 0, .slice none 0 0] 56] wv) ?_ (fun k2 hJ => ?_)
                    · clear hA hM a; rintro a w50 ⟨hA, hM⟩
                      refine Ends.ite hA rfl (fun hc68 => ?_) (fun hc68 => ?_)
                      ·
                        rw [decide_eq_true hc68] at hA
                        refine Ends.seq ?_
                        refine Ends.region ?_
                        refine S.val hA (R.move rfl) rfl ?_; clear hA a; intro a hA
                        refine S.buildSl (cells := #[.int .i64 0]) hA hM Try.underlying40 info3 rfl rfl rfl rfl (by kernel_rfl) rfl ?_; clear hA hM a; intro b69 w51 hb70 hM a hA
                        replace hM : Mem _ _ [pt b69 #[.int .i64 0] 3, own 3 1 (.slice ra (((rowF kd s m n.toNat ar q)).length) rc) (((rowF kd s m n.toNat ar q)).length) (((rowF kd s m n.toNat ar q)).map (Value.int .i64)), pt b6 #[.int .i64 kd, .int .i64 n, .int .i64 0, .slice none 0 0, .slice none 0 0, .slice ao rs.length co] 56, own 40 1 (.slice ao rs.length co) rs.length ((rs.map orV)), bundle (rs.map (orC 3)), pt b1 #[.int .i64 0, .int .i64 0, .int .i64 0, .slice none 0 0, .slice none 0 0, .slice none 0 0] 56] _ := hM
                        refine S.append (k := 1) (k2 := 0) hA hM rfl rfl Try.underlying40 info3 rfl rfl rfl rfl rfl rfl rfl rfl rfl (by first | omega | (simp only [nmL_len, rowF_len]; show (_ + 1) * 8 ≤ 140737488355328; omega) | (simp only [nmL_len, rowF_len]; unfold maxLen; omega) | (show (_ + 1) * 24 ≤ 140737488355328; omega) | (unfold maxLen; omega)) (by first | omega | (simp only [nmL_len, rowF_len]; show (_ + 1) * 8 ≤ 140737488355328; omega) | (simp only [nmL_len, rowF_len]; unfold maxLen; omega) | (show (_ + 1) * 24 ≤ 140737488355328; omega) | (unfold maxLen; omega)) rfl ?_; clear hA hM a; intro a71 c72 w52 hM a hA
                        replace hM : Mem _ _ [pt b69 #[.int .i64 0] 3, own 3 1 (.slice a71 ((((rowF kd s m n.toNat ar q)).length) + 1) c72) ((((rowF kd s m n.toNat ar q)).length) + 1) (((rowF kd s m n.toNat ar q)).map (Value.int .i64) ++ [.int .i64 0]), pt b6 #[.int .i64 kd, .int .i64 n, .int .i64 0, .slice none 0 0, .slice none 0 0, .slice ao rs.length co] 56, own 40 1 (.slice ao rs.length co) rs.length ((rs.map orV)), bundle (rs.map (orC 3)), pt b1 #[.int .i64 0, .int .i64 0, .int .i64 0, .slice none 0 0, .slice none 0 0, .slice none 0 0] 56] _ := hM
                        have hl73 : (((rowF kd s m n.toNat ar q)).length) + 1 = ((rowF kd s m n.toNat ar q) ++ [0]).length := by simp
                        rw [hl73, show ((rowF kd s m n.toNat ar q)).map (Value.int .i64) ++ [.int .i64 0] = ((rowF kd s m n.toNat ar q) ++ [0]).map (Value.int .i64) by simp] at hM; rw [hl73] at hA
                        clear hl73
                        replace hM := hM.drop 0
                        replace hM : Mem _ _ [own 3 1 (.slice a71 ((((rowF kd s m n.toNat ar q) ++ [0])).length) c72) ((((rowF kd s m n.toNat ar q) ++ [0])).length) ((((rowF kd s m n.toNat ar q) ++ [0])).map (Value.int .i64)), pt b6 #[.int .i64 kd, .int .i64 n, .int .i64 0, .slice none 0 0, .slice none 0 0, .slice ao rs.length co] 56, own 40 1 (.slice ao rs.length co) rs.length ((rs.map orV)), bundle (rs.map (orC 3)), pt b1 #[.int .i64 0, .int .i64 0, .int .i64 0, .slice none 0 0, .slice none 0 0, .slice none 0 0] 56] _ := hM
                        refine S.val hA (R.assign rfl) rfl ?_; clear hA a; intro a hA
                        refine S.done ?_
                        replace hA : St 139 [(0, _), (1, _), (2, _), (3, _), (8, _), (10, _), (15, _), (16, _), (17, _)] a := hA.sub ((.cons rfl (.cons rfl (.cons rfl (.cons rfl (.cons rfl (.cons rfl (.cons rfl (.cons rfl (.cons rfl .nil))))))))))
                        refine Ends.exit rfl ?_
                        replace hA : St 139 [(0, _), (1, _), (2, _), (3, _), (8, _), (10, _), (15, _), (16, _), (17, _)] a := hA.sub ((.cons rfl (.cons rfl (.cons rfl (.cons rfl (.cons rfl (.cons rfl (.cons rfl (.cons rfl (.cons rfl .nil))))))))))
                        refine Ends.region ?_
                        refine S.val hA (R.move rfl) rfl ?_; clear hA a; intro a hA
                        refine S.val hA (R.addI rfl rfl (r := ((q : Int)) + 1) rfl (by first | omega | (rw [nmL_len]; omega))) rfl ?_; clear hA a; intro a hA
                        refine S.val hA (R.assign rfl) rfl ?_; clear hA a; intro a hA
                        refine S.done ?_
                        replace hA : St 139 [(0, _), (1, _), (2, _), (3, _), (8, _), (10, _), (15, _), (16, _), (17, _)] a := hA.sub ((.cons rfl (.cons rfl (.cons rfl (.cons rfl (.cons rfl (.cons rfl (.cons rfl (.cons rfl (.cons rfl .nil))))))))))
                        have hns : kd = 3 ∧ ar = q := by have h9 := hc68; omega
                        have e0 := ent_skip (s := s) (m := m) (n := n.toNat) hns
                        rw [show rowF kd s m n.toNat ar q ++ [0] = rowF kd s m n.toNat ar (q + 1) by rw [← rowF_succ, e0]] at hM
                        rw [show rowF kd s m n.toNat ar q ++ [0] = rowF kd s m n.toNat ar (q + 1) by rw [← rowF_succ, e0], ← cb_skip hns] at hA
                        replace hM := hM.front (k := 4) rfl
                        replace hM := hM.front (k := 4) rfl
                        replace hM := hM.front (k := 4) rfl
                        replace hM := hM.front (k := 4) rfl
                        replace hM := hM.front (k := 4) rfl
                        replace hM := hM.firstN 5
                        exact hNext2 ((q + 1, a71, c72)) _ _ ((by show n.toNat - (q + 1) < n.toNat - q; omega)) ⟨hA.sub ((.cons rfl (.cons rfl (.cons rfl (.cons rfl (.cons rfl (.cons rfl (.cons rfl (.cons rfl (.cons rfl .nil)))))))))), hM, (by omega)⟩
                      ·
                        rw [decide_eq_false hc68] at hA
                        refine Ends.skip ?_
                        refine Ends.seq ?_
                        refine Ends.region ?_
                        refine S.val hA (R.move rfl) rfl ?_; clear hA a; intro a hA
                        refine S.val hA (R.move rfl) rfl ?_; clear hA a; intro a hA
                        refine S.call hA (R.callF Try.func16 rfl rfl rfl) rfl (rdraw_in (sd s (rt kd n.toNat * ar + cb kd ar q)) m hm.1 hm.2 _) ?_; clear hA a
                        rintro e w53 ⟨rfl, rfl⟩
                        refine ⟨.tuple #[.int .i64 (nm s m (rt kd n.toNat * ar + cb kd ar q)), .int .u64 (sd s (rt kd n.toNat * ar + cb kd ar q + 1))], rfl, fun a hA => ?_⟩
                        refine S.val hA (R.move rfl) rfl ?_; clear hA a; intro a hA
                        refine S.val hA (R.extract (v := .int .i64 (nm s m (rt kd n.toNat * ar + cb kd ar q))) rfl rfl) rfl ?_; clear hA a; intro a hA
                        refine S.val hA (R.extract (v := .int .u64 (sd s (rt kd n.toNat * ar + cb kd ar q + 1))) rfl rfl) rfl ?_; clear hA a; intro a hA
                        refine S.val hA (R.assign rfl) rfl ?_; clear hA a; intro a hA
                        refine S.val hA (R.assign rfl) rfl ?_; clear hA a; intro a hA
                        refine S.done ?_
                        replace hA : St 139 [(0, _), (1, _), (2, _), (8, _), (10, _), (15, _), (16, _), (17, _), (18, _), (19, _)] a := hA.sub ((.cons rfl (.cons rfl (.cons rfl (.cons rfl (.cons rfl (.cons rfl (.cons rfl (.cons rfl (.cons rfl (.cons rfl .nil)))))))))))
                        refine Ends.seq ?_
                        refine Ends.region ?_
                        refine S.val hA (R.move rfl) rfl ?_; clear hA a; intro a hA
                        refine S.val hA (R.move rfl) rfl ?_; clear hA a; intro a hA
                        refine S.buildSl (cells := #[.int .i64 (nm s m (rt kd n.toNat * ar + cb kd ar q))]) hA hM Try.underlying40 info3 rfl rfl rfl rfl (by kernel_rfl) rfl ?_; clear hA hM a; intro b74 w54 hb75 hM a hA
                        replace hM : Mem _ _ [pt b74 #[.int .i64 (nm s m (rt kd n.toNat * ar + cb kd ar q))] 3, own 3 1 (.slice ra (((rowF kd s m n.toNat ar q)).length) rc) (((rowF kd s m n.toNat ar q)).length) (((rowF kd s m n.toNat ar q)).map (Value.int .i64)), pt b6 #[.int .i64 kd, .int .i64 n, .int .i64 0, .slice none 0 0, .slice none 0 0, .slice ao rs.length co] 56, own 40 1 (.slice ao rs.length co) rs.length ((rs.map orV)), bundle (rs.map (orC 3)), pt b1 #[.int .i64 0, .int .i64 0, .int .i64 0, .slice none 0 0, .slice none 0 0, .slice none 0 0] 56] _ := hM
                        refine S.append (k := 1) (k2 := 0) hA hM rfl rfl Try.underlying40 info3 rfl rfl rfl rfl rfl rfl rfl rfl rfl (by first | omega | (simp only [nmL_len, rowF_len]; show (_ + 1) * 8 ≤ 140737488355328; omega) | (simp only [nmL_len, rowF_len]; unfold maxLen; omega) | (show (_ + 1) * 24 ≤ 140737488355328; omega) | (unfold maxLen; omega)) (by first | omega | (simp only [nmL_len, rowF_len]; show (_ + 1) * 8 ≤ 140737488355328; omega) | (simp only [nmL_len, rowF_len]; unfold maxLen; omega) | (show (_ + 1) * 24 ≤ 140737488355328; omega) | (unfold maxLen; omega)) rfl ?_; clear hA hM a; intro a76 c77 w55 hM a hA
                        replace hM : Mem _ _ [pt b74 #[.int .i64 (nm s m (rt kd n.toNat * ar + cb kd ar q))] 3, own 3 1 (.slice a76 ((((rowF kd s m n.toNat ar q)).length) + 1) c77) ((((rowF kd s m n.toNat ar q)).length) + 1) (((rowF kd s m n.toNat ar q)).map (Value.int .i64) ++ [.int .i64 (nm s m (rt kd n.toNat * ar + cb kd ar q))]), pt b6 #[.int .i64 kd, .int .i64 n, .int .i64 0, .slice none 0 0, .slice none 0 0, .slice ao rs.length co] 56, own 40 1 (.slice ao rs.length co) rs.length ((rs.map orV)), bundle (rs.map (orC 3)), pt b1 #[.int .i64 0, .int .i64 0, .int .i64 0, .slice none 0 0, .slice none 0 0, .slice none 0 0] 56] _ := hM
                        have hl78 : (((rowF kd s m n.toNat ar q)).length) + 1 = ((rowF kd s m n.toNat ar q) ++ [nm s m (rt kd n.toNat * ar + cb kd ar q)]).length := by simp
                        rw [hl78, show ((rowF kd s m n.toNat ar q)).map (Value.int .i64) ++ [.int .i64 (nm s m (rt kd n.toNat * ar + cb kd ar q))] = ((rowF kd s m n.toNat ar q) ++ [nm s m (rt kd n.toNat * ar + cb kd ar q)]).map (Value.int .i64) by simp] at hM; rw [hl78] at hA
                        clear hl78
                        replace hM := hM.drop 0
                        replace hM : Mem _ _ [own 3 1 (.slice a76 ((((rowF kd s m n.toNat ar q) ++ [nm s m (rt kd n.toNat * ar + cb kd ar q)])).length) c77) ((((rowF kd s m n.toNat ar q) ++ [nm s m (rt kd n.toNat * ar + cb kd ar q)])).length) ((((rowF kd s m n.toNat ar q) ++ [nm s m (rt kd n.toNat * ar + cb kd ar q)])).map (Value.int .i64)), pt b6 #[.int .i64 kd, .int .i64 n, .int .i64 0, .slice none 0 0, .slice none 0 0, .slice ao rs.length co] 56, own 40 1 (.slice ao rs.length co) rs.length ((rs.map orV)), bundle (rs.map (orC 3)), pt b1 #[.int .i64 0, .int .i64 0, .int .i64 0, .slice none 0 0, .slice none 0 0, .slice none 0 0] 56] _ := hM
                        refine S.val hA (R.assign rfl) rfl ?_; clear hA a; intro a hA
                        refine S.done ?_
                        replace hA : St 139 [(0, _), (1, _), (2, _), (8, _), (10, _), (15, _), (16, _), (17, _), (19, _)] a := hA.sub ((.cons rfl (.cons rfl (.cons rfl (.cons rfl (.cons rfl (.cons rfl (.cons rfl (.cons rfl (.cons rfl .nil))))))))))
                        refine Ends.region ?_
                        refine S.val hA (R.move rfl) rfl ?_; clear hA a; intro a hA
                        refine S.val hA (R.assign rfl) rfl ?_; clear hA a; intro a hA
                        refine S.done ?_
                        replace hA : St 139 [(0, _), (1, _), (2, _), (3, _), (8, _), (10, _), (15, _), (16, _), (17, _)] a := hA.sub ((.cons rfl (.cons rfl (.cons rfl (.cons rfl (.cons rfl (.cons rfl (.cons rfl (.cons rfl (.cons rfl .nil))))))))))
                        refine Ends.inBlock ?_
                        refine Ends.region ?_
                        refine S.val hA (R.move rfl) rfl ?_; clear hA a; intro a hA
                        refine S.val hA (R.addI rfl rfl (r := ((q : Int)) + 1) rfl (by first | omega | (rw [nmL_len]; omega))) rfl ?_; clear hA a; intro a hA
                        refine S.val hA (R.assign rfl) rfl ?_; clear hA a; intro a hA
                        refine S.done ?_
                        replace hA : St 139 [(0, _), (1, _), (2, _), (3, _), (8, _), (10, _), (15, _), (16, _), (17, _)] a := hA.sub ((.cons rfl (.cons rfl (.cons rfl (.cons rfl (.cons rfl (.cons rfl (.cons rfl (.cons rfl (.cons rfl .nil))))))))))
                        have hns : ¬ (kd = 3 ∧ ar = q) := by have h9 := hc68; omega
                        rw [show nm s m (rt kd n.toNat * ar + cb kd ar q) = ent kd s m n.toNat ar q from (ent_step hns).symm, rowF_succ] at hM
                        rw [show rt kd n.toNat * ar + cb kd ar q + 1 = rt kd n.toNat * ar + cb kd ar (q + 1) by rw [cb_step hns]; omega] at hA
                        rw [show nm s m (rt kd n.toNat * ar + cb kd ar q) = ent kd s m n.toNat ar q from (ent_step hns).symm, rowF_succ] at hA
                        replace hM := hM.front (k := 4) rfl
                        replace hM := hM.front (k := 4) rfl
                        replace hM := hM.front (k := 4) rfl
                        replace hM := hM.front (k := 4) rfl
                        replace hM := hM.front (k := 4) rfl
                        replace hM := hM.firstN 5
                        exact hNext2 ((q + 1, a76, c77)) _ _ ((by show n.toNat - (q + 1) < n.toNat - q; omega)) ⟨hA.sub ((.cons rfl (.cons rfl (.cons rfl (.cons rfl (.cons rfl (.cons rfl (.cons rfl (.cons rfl (.cons rfl .nil)))))))))), hM, (by omega)⟩
                    ·
                      refine Ends.region ?_
                      refine S.val hA (R.move rfl) rfl ?_; clear hA a; intro a hA
                      refine S.val hA (R.eql rfl rfl) rfl ?_; clear hA a; intro a hA
                      refine S.val hA (R.move rfl) rfl ?_; clear hA a; intro a hA
                      refine hA.split (d := 113) rfl ?_ ?_
                      · clear hA; intro hg79 hA
                        refine S.valg (dj := 113) hA (by kernel_rfl) rfl (R.move rfl) rfl ?_; clear hA a; intro a hA
                        refine S.valg (dj := 113) hA (by kernel_rfl) rfl (R.move rfl) rfl ?_; clear hA a; intro a hA
                        refine S.valg (dj := 113) hA (by kernel_rfl) rfl (R.eql rfl rfl) rfl ?_; clear hA a; intro a hA
                        refine S.val hA (R.pickT rfl rfl) rfl ?_; clear hA a; intro a hA
                        refine S.done ?_
                        replace hA : St 139 [(0, _), (1, _), (2, _), (3, _), (8, _), (10, _), (15, _), (16, _), (17, _), (117, _)] a := hA.sub ((.cons rfl (.cons rfl (.cons rfl (.cons rfl (.cons rfl (.cons rfl (.cons rfl (.cons rfl (.cons rfl (.cons rfl .nil)))))))))))
                        exact hJ _ _ ⟨hA.sub (.cons rfl (.cons rfl (.cons rfl (.cons rfl (.cons rfl (.cons rfl (.cons rfl (.cons rfl (.cons rfl (.cons (by first | rfl | exact congrArg (fun b => some (Value.bool b)) (by first | (simp; done) | (simp [hg79]; done) | (have h80 := hg79; (try simp at h80); simp [h80]; done) | exact (decide_eq_false (fun h9 => hg79 h9.1)).symm)) .nil)))))))))), hM⟩
                      · clear hA; intro hg79 hA
                        refine S.no (dj := 113) hA (by kernel_rfl) rfl rfl rfl ?_; clear hA a; intro a hA
                        refine S.no (dj := 113) hA (by kernel_rfl) rfl rfl rfl ?_; clear hA a; intro a hA
                        refine S.no (dj := 113) hA (by kernel_rfl) rfl rfl rfl ?_; clear hA a; intro a hA
                        refine S.val hA (R.pickF rfl rfl) rfl ?_; clear hA a; intro a hA
                        refine S.done ?_
                        replace hA : St 139 [(0, _), (1, _), (2, _), (3, _), (8, _), (10, _), (15, _), (16, _), (17, _), (117, _)] a := hA.sub ((.cons rfl (.cons rfl (.cons rfl (.cons rfl (.cons rfl (.cons rfl (.cons rfl (.cons rfl (.cons rfl (.cons rfl .nil)))))))))))
                        exact hJ _ _ ⟨hA.sub (.cons rfl (.cons rfl (.cons rfl (.cons rfl (.cons rfl (.cons rfl (.cons rfl (.cons rfl (.cons rfl (.cons (by first | rfl | exact congrArg (fun b => some (Value.bool b)) (by first | (simp; done) | (simp [hg79]; done) | (have h80 := hg79; (try simp at h80); simp [h80]; done) | exact (decide_eq_false (fun h9 => hg79 h9.1)).symm)) .nil)))))))))), hM⟩
                  ·
                    rw [decide_eq_false hc67] at hA
                    obtain rfl : q = n.toNat := by omega
                    rw [cb_end (show ar < n.toNat by omega)] at hA
                    refine Ends.exit rfl ?_
                    replace hA : St 139 [(0, _), (1, _), (2, _), (3, _), (8, _), (10, _), (15, _), (16, _)] a := hA.sub ((.cons rfl (.cons rfl (.cons rfl (.cons rfl (.cons rfl (.cons rfl (.cons rfl (.cons rfl .nil)))))))))
                    refine Ends.region ?_
                    refine S.val hA (R.fieldAddr (q := 5) fi56_5 rfl rfl rfl) rfl ?_; clear hA a; intro a hA
                    refine S.val hA (R.load sz54 rfl (hM.cell (k := 1) rfl rfl)) rfl ?_; clear hA a; intro a hA
                    refine S.val hA (R.move rfl) rfl ?_; clear hA a; intro a hA
                    refine S.buildSl (cells := #[.slice ra ((rowF kd s m n.toNat ar n.toNat).length) rc]) hA hM Try.underlying54 info40 rfl rfl rfl rfl (by kernel_rfl) rfl ?_; clear hA hM a; intro b80 w56 hb81 hM a hA
                    replace hM : Mem _ _ [pt b80 #[.slice ra ((rowF kd s m n.toNat ar n.toNat).length) rc] 40, own 3 1 (.slice ra (((rowF kd s m n.toNat ar n.toNat)).length) rc) (((rowF kd s m n.toNat ar n.toNat)).length) (((rowF kd s m n.toNat ar n.toNat)).map (Value.int .i64)), pt b6 #[.int .i64 kd, .int .i64 n, .int .i64 0, .slice none 0 0, .slice none 0 0, .slice ao rs.length co] 56, own 40 1 (.slice ao rs.length co) rs.length ((rs.map orV)), bundle (rs.map (orC 3)), pt b1 #[.int .i64 0, .int .i64 0, .int .i64 0, .slice none 0 0, .slice none 0 0, .slice none 0 0] 56] _ := hM
                    refine S.append (k := 3) (k2 := 0) hA hM rfl rfl Try.underlying54 info40 rfl rfl rfl rfl rfl rfl rfl rfl rfl (by first | omega | (simp only [nmL_len, rowF_len]; show (_ + 1) * 8 ≤ 140737488355328; omega) | (simp only [nmL_len, rowF_len]; unfold maxLen; omega) | (show (_ + 1) * 24 ≤ 140737488355328; omega) | (unfold maxLen; omega)) (by first | omega | (simp only [nmL_len, rowF_len]; show (_ + 1) * 8 ≤ 140737488355328; omega) | (simp only [nmL_len, rowF_len]; unfold maxLen; omega) | (show (_ + 1) * 24 ≤ 140737488355328; omega) | (unfold maxLen; omega)) rfl ?_; clear hA hM a; intro a82 c83 w57 hM a hA
                    replace hM : Mem _ _ [pt b80 #[.slice ra ((rowF kd s m n.toNat ar n.toNat).length) rc] 40, own 3 1 (.slice ra (((rowF kd s m n.toNat ar n.toNat)).length) rc) (((rowF kd s m n.toNat ar n.toNat)).length) (((rowF kd s m n.toNat ar n.toNat)).map (Value.int .i64)), pt b6 #[.int .i64 kd, .int .i64 n, .int .i64 0, .slice none 0 0, .slice none 0 0, .slice ao rs.length co] 56, own 40 1 (.slice a82 (rs.length + 1) c83) (rs.length + 1) (((rs.map orV) ++ [.slice ra ((rowF kd s m n.toNat ar n.toNat).length) rc])), bundle (rs.map (orC 3)), pt b1 #[.int .i64 0, .int .i64 0, .int .i64 0, .slice none 0 0, .slice none 0 0, .slice none 0 0] 56] _ := hM
                    replace hM := hM.drop 0
                    replace hM : Mem _ _ [own 3 1 (.slice ra (((rowF kd s m n.toNat ar n.toNat)).length) rc) (((rowF kd s m n.toNat ar n.toNat)).length) (((rowF kd s m n.toNat ar n.toNat)).map (Value.int .i64)), pt b6 #[.int .i64 kd, .int .i64 n, .int .i64 0, .slice none 0 0, .slice none 0 0, .slice ao rs.length co] 56, own 40 1 (.slice a82 (rs.length + 1) c83) (rs.length + 1) (((rs.map orV) ++ [.slice ra ((rowF kd s m n.toNat ar n.toNat).length) rc])), bundle (rs.map (orC 3)), pt b1 #[.int .i64 0, .int .i64 0, .int .i64 0, .slice none 0 0, .slice none 0 0, .slice none 0 0] 56] _ := hM
                    refine S.val hA (R.fieldAddr (q := 5) fi56_5 rfl rfl rfl) rfl ?_; clear hA a; intro a hA
                    refine S.store (k := 1) hA hM sz54 rfl rfl rfl rfl rfl ?_; clear hM
                    intro w58 hM
                    replace hM : Mem _ _ [own 3 1 (.slice ra (((rowF kd s m n.toNat ar n.toNat)).length) rc) (((rowF kd s m n.toNat ar n.toNat)).length) (((rowF kd s m n.toNat ar n.toNat)).map (Value.int .i64)), pt b6 #[.int .i64 kd, .int .i64 n, .int .i64 0, .slice none 0 0, .slice none 0 0, .slice a82 (rs.length + 1) c83] 56, own 40 1 (.slice a82 (rs.length + 1) c83) (rs.length + 1) (((rs.map orV) ++ [.slice ra ((rowF kd s m n.toNat ar n.toNat).length) rc])), bundle (rs.map (orC 3)), pt b1 #[.int .i64 0, .int .i64 0, .int .i64 0, .slice none 0 0, .slice none 0 0, .slice none 0 0] 56] _ := hM
                    refine S.done ?_
                    replace hA : St 139 [(0, _), (1, _), (2, _), (3, _), (8, _), (10, _), (15, _)] a := hA.sub ((.cons rfl (.cons rfl (.cons rfl (.cons rfl (.cons rfl (.cons rfl (.cons rfl .nil))))))))
                    refine Ends.inBlock ?_
                    refine Ends.region ?_
                    refine S.val hA (R.move rfl) rfl ?_; clear hA a; intro a hA
                    refine S.val hA (R.addI rfl rfl (r := ((ar : Int)) + 1) rfl (by first | omega | (rw [nmL_len]; omega))) rfl ?_; clear hA a; intro a hA
                    refine S.val hA (R.assign rfl) rfl ?_; clear hA a; intro a hA
                    refine S.done ?_
                    replace hA : St 139 [(0, _), (1, _), (2, _), (3, _), (8, _), (10, _), (15, _)] a := hA.sub ((.cons rfl (.cons rfl (.cons rfl (.cons rfl (.cons rfl (.cons rfl (.cons rfl .nil))))))))
                    rw [show (Value.slice ra (rowF kd s m n.toNat ar n.toNat).length rc) = orV ⟨rowF kd s m n.toNat ar n.toNat, ra, rc⟩ from rfl, orV_snoc, len_snoc rs ⟨rowF kd s m n.toNat ar n.toNat, ra, rc⟩] at hM
                    replace hM := hM.front (k := 3) rfl
                    replace hM := hM.front (k := 1) rfl
                    replace hM := (hM.ownOr).bundleSnoc
                    replace hM := hM.front (k := 3) rfl
                    replace hM := hM.front (k := 1) rfl
                    replace hM := hM.front (k := 3) rfl
                    replace hM := hM.front (k := 3) rfl
                    rw [show rt kd n.toNat * ar + rt kd n.toNat = rt kd n.toNat * (ar + 1) from rfl] at hA
                    exact hNext1 ((ar + 1, a82, c83, rs ++ [⟨rowF kd s m n.toNat ar n.toNat, ra, rc⟩])) _ _ ((by show n.toNat - (ar + 1) < n.toNat - ar; omega)) ⟨hA.sub ((.cons rfl (.cons rfl (.cons rfl (.cons rfl (.cons rfl (.cons rfl (.cons rfl .nil)))))))), hM, (by omega), (Y_snoc hY)⟩
                ·
                  rw [decide_eq_false hc64] at hA
                  obtain rfl : ar = n.toNat := by omega
                  refine Ends.exit rfl ?_
                  replace hA : St 139 [(8, _), (10, _)] a := hA.sub ((.cons rfl (.cons rfl .nil)))
                  refine Ends.seq ?_
                  refine Ends.region ?_
                  refine S.val hA (R.loadA sz56 rfl (hM.range (k := 0) rfl) rfl) rfl ?_; clear hA a; intro a hA
                  refine S.storeA (k := 3) hA hM sz56 rfl rfl rfl rfl rfl rfl ?_; clear hM
                  intro w59 hM
                  replace hM : Mem _ _ [pt b6 #[.int .i64 kd, .int .i64 n, .int .i64 0, .slice none 0 0, .slice none 0 0, .slice ao rs.length co] 56, own 40 1 (.slice ao rs.length co) rs.length ((rs.map orV)), bundle (rs.map (orC 3)), pt b1 #[.int .i64 kd, .int .i64 n, .int .i64 0, .slice none 0 0, .slice none 0 0, .slice ao rs.length co] 56] _ := hM
                  refine S.val hA (R.assign rfl) rfl ?_; clear hA a; intro a hA
                  refine S.done ?_
                  replace hA : St 139 [(8, _), (9, _)] a := hA.sub ((.cons rfl (.cons rfl .nil)))
                  refine Ends.retC2 (k := 3) Try.func37 Try.results37 hA hM rfl rfl rfl sz56 rfl ?_
                  replace hM := hM.front (k := 2) rfl
                  replace hM := hM.front (k := 2) rfl
                  replace hM := hM.firstN 2
                  have hM1 := Mem.pack (cs := insL 3 40 (gR kd n m s) none 0 none 0 ao co rs) (L := []) ((hM.ownNil 3 1).ownNil 3 1)
                  obtain ⟨rfl, rfl⟩ := gmk_rows hG (by omega) (by omega) (by omega)
                  obtain ⟨he, hr⟩ := insR_of hM1 (k := 0) rfl hY
                  exact ⟨_, _, _, _, _, _, congrArg (fun x => Ending.returned (.tuple #[x, .int .i64 0])) he, hr, Mem.trans0 hbs hM.nilL⟩
          ·
            refine Ends.region ?_
            refine S.val hA (R.move rfl) rfl ?_; clear hA a; intro a hA
            refine S.val hA (R.gtr rfl rfl) rfl ?_; clear hA a; intro a hA
            refine S.val hA (R.move rfl) rfl ?_; clear hA a; intro a hA
            refine hA.split (d := 40) rfl ?_ ?_
            · clear hA; intro hg84 hA
              refine S.no (dj := 40) hA (by kernel_rfl) rfl rfl rfl ?_; clear hA a; intro a hA
              refine S.no (dj := 40) hA (by kernel_rfl) rfl rfl rfl ?_; clear hA a; intro a hA
              refine S.no (dj := 40) hA (by kernel_rfl) rfl rfl rfl ?_; clear hA a; intro a hA
              refine S.noU (dj := 43) hA (by kernel_rfl) rfl rfl ?_; clear hA a; intro a hA
              refine S.noU (dj := 43) hA (by kernel_rfl) rfl rfl ?_; clear hA a; intro a hA
              refine S.no (dj := 40) hA (by kernel_rfl) rfl rfl rfl ?_; clear hA a; intro a hA
              refine S.val hA (R.pickT rfl rfl) rfl ?_; clear hA a; intro a hA
              refine S.done ?_
              replace hA : St 139 [(0, _), (1, _), (2, _), (3, _), (8, _), (47, _)] a := hA.sub ((.cons rfl (.cons rfl (.cons rfl (.cons rfl (.cons rfl (.cons rfl .nil)))))))
              exact hJ _ _ ⟨hA.sub (.cons rfl (.cons rfl (.cons rfl (.cons rfl (.cons rfl (.cons (by first | rfl | exact congrArg (fun b => some (Value.bool b)) (by first | (simp; done) | (simp [hg84]; done) | (have h80 := hg84; (try simp at h80); simp [h80]; done) | exact (decide_eq_false (fun h9 => hg84 h9.1)).symm)) .nil)))))), hM⟩
            · clear hA; intro hg84 hA
              refine S.valg (dj := 40) hA (by kernel_rfl) rfl (R.move rfl) rfl ?_; clear hA a; intro a hA
              refine S.valg (dj := 40) hA (by kernel_rfl) rfl (R.gtr rfl rfl) rfl ?_; clear hA a; intro a hA
              refine S.valg (dj := 40) hA (by kernel_rfl) rfl (R.move rfl) rfl ?_; clear hA a; intro a hA
              refine hA.split (d := 43) rfl ?_ ?_
              · clear hA; intro hg85 hA
                refine S.valg (dj := 43) hA (by kernel_rfl) rfl (R.move rfl) rfl ?_; clear hA a; intro a hA
                refine S.valg (dj := 43) hA (by kernel_rfl) rfl (R.gtr rfl rfl) rfl ?_; clear hA a; intro a hA
                refine S.valg (dj := 40) hA (by kernel_rfl) rfl (R.pickT rfl rfl) rfl ?_; clear hA a; intro a hA
                refine S.val hA (R.pickF rfl rfl) rfl ?_; clear hA a; intro a hA
                refine S.done ?_
                replace hA : St 139 [(0, _), (1, _), (2, _), (3, _), (8, _), (47, _)] a := hA.sub ((.cons rfl (.cons rfl (.cons rfl (.cons rfl (.cons rfl (.cons rfl .nil)))))))
                exact hJ _ _ ⟨hA.sub (.cons rfl (.cons rfl (.cons rfl (.cons rfl (.cons rfl (.cons (by first | rfl | exact congrArg (fun b => some (Value.bool b)) (by first | (simp; done) | (simp [hg84, hg85]; done) | (have h80 := hg84; (try simp at h80); have h81 := hg85; (try simp at h81); simp [h80, h81]; done) | exact (decide_eq_false (fun h9 => hg84 h9.1)).symm | exact (decide_eq_false (fun h9 => hg85 h9.1)).symm)) .nil)))))), hM⟩
              · clear hA; intro hg85 hA
                refine S.no (dj := 43) hA (by kernel_rfl) rfl rfl rfl ?_; clear hA a; intro a hA
                refine S.no (dj := 43) hA (by kernel_rfl) rfl rfl rfl ?_; clear hA a; intro a hA
                refine S.valg (dj := 40) hA (by kernel_rfl) rfl (R.pickF rfl rfl) rfl ?_; clear hA a; intro a hA
                refine S.val hA (R.pickF rfl rfl) rfl ?_; clear hA a; intro a hA
                refine S.done ?_
                replace hA : St 139 [(0, _), (1, _), (2, _), (3, _), (8, _), (47, _)] a := hA.sub ((.cons rfl (.cons rfl (.cons rfl (.cons rfl (.cons rfl (.cons rfl .nil)))))))
                exact hJ _ _ ⟨hA.sub (.cons rfl (.cons rfl (.cons rfl (.cons rfl (.cons rfl (.cons (by first | rfl | exact congrArg (fun b => some (Value.bool b)) (by first | (simp; done) | (simp [hg84, hg85]; done) | (have h80 := hg84; (try simp at h80); have h81 := hg85; (try simp at h81); simp [h80, h81]; done) | exact (decide_eq_false (fun h9 => hg84 h9.1)).symm | exact (decide_eq_false (fun h9 => hg85 h9.1)).symm)) .nil)))))), hM⟩
      ·
        refine Ends.region ?_
        refine S.val hA (R.move rfl) rfl ?_; clear hA a; intro a hA
        refine S.val hA (R.lss rfl rfl) rfl ?_; clear hA a; intro a hA
        refine S.val hA (R.move rfl) rfl ?_; clear hA a; intro a hA
        refine hA.split (d := 29) rfl ?_ ?_
        · clear hA; intro hg86 hA
          refine S.no (dj := 29) hA (by kernel_rfl) rfl rfl rfl ?_; clear hA a; intro a hA
          refine S.no (dj := 29) hA (by kernel_rfl) rfl rfl rfl ?_; clear hA a; intro a hA
          refine S.val hA (R.pickT rfl rfl) rfl ?_; clear hA a; intro a hA
          refine S.val hA (R.move rfl) rfl ?_; clear hA a; intro a hA
          refine S.no (dj := 33) hA (by kernel_rfl) rfl rfl rfl ?_; clear hA a; intro a hA
          refine S.no (dj := 33) hA (by kernel_rfl) rfl rfl rfl ?_; clear hA a; intro a hA
          refine S.val hA (R.pickT rfl rfl) rfl ?_; clear hA a; intro a hA
          refine S.done ?_
          replace hA : St 139 [(0, _), (1, _), (2, _), (3, _), (8, _), (36, _)] a := hA.sub ((.cons rfl (.cons rfl (.cons rfl (.cons rfl (.cons rfl (.cons rfl .nil)))))))
          exact hJ _ _ ⟨hA.sub (.cons rfl (.cons rfl (.cons rfl (.cons rfl (.cons rfl (.cons (by first | rfl | exact congrArg (fun b => some (Value.bool b)) (by first | (simp; done) | (simp [hg86]; done) | (have h80 := hg86; (try simp at h80); simp [h80]; done) | exact (decide_eq_false (fun h9 => hg86 h9.1)).symm)) .nil)))))), hM⟩
        · clear hA; intro hg86 hA
          refine S.valg (dj := 29) hA (by kernel_rfl) rfl (R.move rfl) rfl ?_; clear hA a; intro a hA
          refine S.valg (dj := 29) hA (by kernel_rfl) rfl (R.lss rfl rfl) rfl ?_; clear hA a; intro a hA
          refine S.val hA (R.pickF rfl rfl) rfl ?_; clear hA a; intro a hA
          refine S.val hA (R.move rfl) rfl ?_; clear hA a; intro a hA
          refine hA.split (d := 33) rfl ?_ ?_
          · clear hA; intro hg87 hA
            refine S.no (dj := 33) hA (by kernel_rfl) rfl rfl rfl ?_; clear hA a; intro a hA
            refine S.no (dj := 33) hA (by kernel_rfl) rfl rfl rfl ?_; clear hA a; intro a hA
            refine S.val hA (R.pickT rfl rfl) rfl ?_; clear hA a; intro a hA
            refine S.done ?_
            replace hA : St 139 [(0, _), (1, _), (2, _), (3, _), (8, _), (36, _)] a := hA.sub ((.cons rfl (.cons rfl (.cons rfl (.cons rfl (.cons rfl (.cons rfl .nil)))))))
            exact hJ _ _ ⟨hA.sub (.cons rfl (.cons rfl (.cons rfl (.cons rfl (.cons rfl (.cons (by first | rfl | exact congrArg (fun b => some (Value.bool b)) (by first | (simp; done) | (simp [hg86, hg87]; done) | (have h80 := hg86; (try simp at h80); have h81 := hg87; (try simp at h81); simp [h80, h81]; done) | exact (decide_eq_false (fun h9 => hg86 h9.1)).symm | exact (decide_eq_false (fun h9 => hg87 h9.1)).symm)) .nil)))))), hM⟩
          · clear hA; intro hg87 hA
            refine S.valg (dj := 33) hA (by kernel_rfl) rfl (R.move rfl) rfl ?_; clear hA a; intro a hA
            refine S.valg (dj := 33) hA (by kernel_rfl) rfl (R.gtr rfl rfl) rfl ?_; clear hA a; intro a hA
            refine S.val hA (R.pickF rfl rfl) rfl ?_; clear hA a; intro a hA
            refine S.done ?_
            replace hA : St 139 [(0, _), (1, _), (2, _), (3, _), (8, _), (36, _)] a := hA.sub ((.cons rfl (.cons rfl (.cons rfl (.cons rfl (.cons rfl (.cons rfl .nil)))))))
            exact hJ _ _ ⟨hA.sub (.cons rfl (.cons rfl (.cons rfl (.cons rfl (.cons rfl (.cons (by first | rfl | exact congrArg (fun b => some (Value.bool b)) (by first | (simp; done) | (simp [hg86, hg87]; done) | (have h80 := hg86; (try simp at h80); have h81 := hg87; (try simp at h81); simp [h80, h81]; done) | exact (decide_eq_false (fun h9 => hg86 h9.1)).symm | exact (decide_eq_false (fun h9 => hg87 h9.1)).symm)) .nil)))))), hM⟩
  ·
    refine Ends.region ?_
    refine S.val hA (R.move rfl) rfl ?_; clear hA a; intro a hA
    refine S.val hA (R.lss rfl rfl) rfl ?_; clear hA a; intro a hA
    refine S.val hA (R.move rfl) rfl ?_; clear hA a; intro a hA
    refine hA.split (d := 22) rfl ?_ ?_
    · clear hA; intro hg88 hA
      refine S.no (dj := 22) hA (by kernel_rfl) rfl rfl rfl ?_; clear hA a; intro a hA
      refine S.no (dj := 22) hA (by kernel_rfl) rfl rfl rfl ?_; clear hA a; intro a hA
      refine S.val hA (R.pickT rfl rfl) rfl ?_; clear hA a; intro a hA
      refine S.done ?_
      replace hA : St 139 [(0, _), (1, _), (2, _), (3, _), (8, _), (25, _)] a := hA.sub ((.cons rfl (.cons rfl (.cons rfl (.cons rfl (.cons rfl (.cons rfl .nil)))))))
      exact hJ _ _ ⟨hA.sub (.cons rfl (.cons rfl (.cons rfl (.cons rfl (.cons rfl (.cons (by first | rfl | exact congrArg (fun b => some (Value.bool b)) (by first | (simp; done) | (simp [hg88]; done) | (have h80 := hg88; (try simp at h80); simp [h80]; done) | exact (decide_eq_false (fun h9 => hg88 h9.1)).symm)) .nil)))))), hM⟩
    · clear hA; intro hg88 hA
      refine S.valg (dj := 22) hA (by kernel_rfl) rfl (R.move rfl) rfl ?_; clear hA a; intro a hA
      refine S.valg (dj := 22) hA (by kernel_rfl) rfl (R.gtr rfl rfl) rfl ?_; clear hA a; intro a hA
      refine S.val hA (R.pickF rfl rfl) rfl ?_; clear hA a; intro a hA
      refine S.done ?_
      replace hA : St 139 [(0, _), (1, _), (2, _), (3, _), (8, _), (25, _)] a := hA.sub ((.cons rfl (.cons rfl (.cons rfl (.cons rfl (.cons rfl (.cons rfl .nil)))))))
      exact hJ _ _ ⟨hA.sub (.cons rfl (.cons rfl (.cons rfl (.cons rfl (.cons rfl (.cons (by first | rfl | exact congrArg (fun b => some (Value.bool b)) (by first | (simp; done) | (simp [hg88]; done) | (have h80 := hg88; (try simp at h80); simp [h80]; done) | exact (decide_eq_false (fun h9 => hg88 h9.1)).symm)) .nil)))))), hM⟩
set_option maxRecDepth 100000 in
set_option maxHeartbeats 400000 in
theorem genMakes_w (kd n p q : Int) (hp : 0 ≤ p ∧ p < 4294967296) (hq : 0 ≤ q ∧ q < 4294967296) (w : World) :
    Calls Try.prog 11 #[.int .i64 kd, .int .i64 n, .agg #[.int .u32 p, .int .u32 q]] w fun e w' => e = .returned (.bool true) ∧ Below w.heap.size w w' := by
  have hbs := Below.refl (B := w.heap.size) w
  have hM := Mem.start w
  refine Calls.of_ends (vs := [.int .i64 kd, .int .i64 n, .agg #[.int .u32 p, .int .u32 q]]) Try.func11 rfl Try.ntmps11 rfl ?_
  intro a hA
  replace hA : St 53 [(0, _), (1, _), (2, _)] a := hA
  refine Ends.seq ?_
  refine Ends.region ?_
  refine S.box hA hM rfl rfl ?_; clear hA hM a; intro b1 w1 hb2 hM a hA
  replace hM : Mem _ _ [pt b1 #[.int .u32 p, .int .u32 q] 53] _ := hM
  refine S.val hA (R.assign rfl) rfl ?_; clear hA a; intro a hA
  refine S.done ?_
  replace hA : St 53 [(0, _), (1, _), (5, _)] a := hA.sub ((.cons rfl (.cons rfl (.cons rfl .nil))))
  refine Ends.seq ?_
  refine Ends.region ?_
  refine S.val hA (R.indexAddrA (q := 0) ar53 rfl rfl (by omega) (rfl)) rfl ?_; clear hA a; intro a hA
  refine S.val hA (R.load sz52 rfl (hM.cell (k := 0) rfl rfl)) rfl ?_; clear hA a; intro a hA
  refine S.val hA (R.to (v := .int .i64 p) (R.conv Try.underlying3 Try.underlying52 rfl) (congrArg (Value.int .i64) (by rw [IntKind.wrap_i64]; omega))) rfl ?_; clear hA a; intro a hA
  refine S.val hA (R.assign rfl) rfl ?_; clear hA a; intro a hA
  refine S.done ?_
  replace hA : St 53 [(0, _), (1, _), (5, _), (7, _)] a := hA.sub ((.cons rfl (.cons rfl (.cons rfl (.cons rfl .nil)))))
  refine Ends.seq ?_
  refine Ends.seq ?_
  refine Ends.region ?_
  refine S.val hA (R.indexAddrA (q := 0) ar53 rfl rfl (by omega) (rfl)) rfl ?_; clear hA a; intro a hA
  refine S.val hA (R.load sz52 rfl (hM.cell (k := 0) rfl rfl)) rfl ?_; clear hA a; intro a hA
  refine S.val hA (R.remI rfl rfl rfl (by omega)) rfl ?_; clear hA a; intro a hA
  refine S.val hA (R.eql rfl rfl) rfl ?_; clear hA a; intro a hA
  refine S.done ?_
  replace hA : St 53 [(0, _), (1, _), (5, _), (7, _), (19, _)] a := hA.sub ((.cons rfl (.cons rfl (.cons rfl (.cons rfl (.cons rfl .nil))))))
  refine Ends.ite hA rfl (fun hc3 => ?_) (fun hc3 => ?_)
  ·
    refine Ends.region ?_
    refine S.val hA (R.move rfl) rfl ?_; clear hA a; intro a hA
    refine S.val hA (R.subI rfl rfl (r := 0 - p) rfl (by omega)) rfl ?_; clear hA a; intro a hA
    refine S.val hA (R.assign rfl) rfl ?_; clear hA a; intro a hA
    refine S.done ?_
    replace hA : St 53 [(0, _), (1, _), (5, _), (7, _)] a := hA.sub ((.cons rfl (.cons rfl (.cons rfl (.cons rfl .nil)))))
    refine Ends.seq ?_
    refine Ends.region ?_
    refine S.val hA (R.indexAddrA (q := 1) ar53 rfl rfl (by omega) (rfl)) rfl ?_; clear hA a; intro a hA
    refine S.val hA (R.load sz52 rfl (hM.cell (k := 0) rfl rfl)) rfl ?_; clear hA a; intro a hA
    refine S.val hA (R.to (v := .int .u64 q) (R.conv Try.underlying22 Try.underlying52 rfl) (congrArg (Value.int .u64) (by rw [IntKind.wrap_u64]; omega))) rfl ?_; clear hA a; intro a hA
    refine S.val hA (R.mul rfl rfl) rfl ?_; clear hA a; intro a hA
    refine S.val hA (R.assign rfl) rfl ?_; clear hA a; intro a hA
    refine S.done ?_
    replace hA : St 53 [(0, _), (1, _), (7, _), (8, _)] a := hA.sub ((.cons rfl (.cons rfl (.cons rfl (.cons rfl .nil)))))
    refine Ends.seq ?_
    refine Ends.region ?_
    refine S.val hA (R.move rfl) rfl ?_; clear hA a; intro a hA
    refine S.val hA (R.move rfl) rfl ?_; clear hA a; intro a hA
    refine S.val hA (R.move rfl) rfl ?_; clear hA a; intro a hA
    refine S.val hA (R.move rfl) rfl ?_; clear hA a; intro a hA
    obtain ⟨G, er, hG⟩ : ∃ G er, gmk kd n (0 - p) (IntKind.u64.wrap (q * 4294967297)) = (G, er) := ⟨_, _, rfl⟩
    refine S.call hA (R.callF Try.func36 rfl rfl rfl) rfl (gMake kd n (0 - p) (IntKind.u64.wrap (q * 4294967297)) G er hG _) ?_; clear hA a
    rintro e w2 ⟨ax3, cx3, ax4, cx4, ax5, cx5, rfl, ⟨hx3, hx4, hx5⟩, hb⟩
    replace hM := hM.callB hb; clear hb
    have hbx4 := hM.block (k := 0) rfl
    have hbs := hbs.trans (hM.below.mono hbs.size)
    replace hM := Mem.start w2
    refine ⟨.tuple #[.agg #[.int .i64 G.kind, .int .i64 G.n, .int .i64 G.cap, .slice ax3 G.wt.length cx3, .slice ax4 G.vl.length cx4, .slice ax5 G.cost.length cx5], .int .i64 er], rfl, fun a hA => ?_⟩
    refine S.val hA (R.move rfl) rfl ?_; clear hA a; intro a hA
    refine S.val hA (R.extract (v := .agg #[.int .i64 G.kind, .int .i64 G.n, .int .i64 G.cap, .slice ax3 G.wt.length cx3, .slice ax4 G.vl.length cx4, .slice ax5 G.cost.length cx5]) rfl rfl) rfl ?_; clear hA a; intro a hA
    refine S.val hA (R.extract (v := .int .i64 er) rfl rfl) rfl ?_; clear hA a; intro a hA
    refine S.alloc hA hM info56 rfl rfl ?_; clear hA hM a; intro b5 w3 hb6 hM a hA
    replace hM : Mem _ _ [pt b5 #[.int .i64 0, .int .i64 0, .int .i64 0, .slice none 0 0, .slice none 0 0, .slice none 0 0] 56] _ := hM
    refine S.storeA (k := 0) hA hM sz56 rfl rfl rfl rfl rfl rfl ?_; clear hM
    intro w4 hM
    replace hM : Mem _ _ [pt b5 #[.int .i64 G.kind, .int .i64 G.n, .int .i64 G.cap, .slice ax3 G.wt.length cx3, .slice ax4 G.vl.length cx4, .slice ax5 G.cost.length cx5] 56] _ := hM
    refine S.val hA (R.assign rfl) rfl ?_; clear hA a; intro a hA
    refine S.done ?_
    replace hA : St 53 [(0, _), (1, _), (7, _), (8, _), (9, _), (10, _)] a := hA.sub ((.cons rfl (.cons rfl (.cons rfl (.cons rfl (.cons rfl (.cons rfl .nil)))))))
    refine Ends.seq ?_
    refine Ends.region ?_
    refine S.val hA (R.move rfl) rfl ?_; clear hA a; intro a hA
    refine S.val hA (R.move rfl) rfl ?_; clear hA a; intro a hA
    refine S.val hA (R.move rfl) rfl ?_; clear hA a; intro a hA
    refine S.val hA (R.move rfl) rfl ?_; clear hA a; intro a hA
    refine S.call hA (R.callF Try.func37 rfl rfl rfl) rfl (rMake kd n (0 - p) (IntKind.u64.wrap (q * 4294967297)) G er hG _) ?_; clear hA a
    rintro e w5 ⟨ay3, cy3, ay4, cy4, ay5, cy5, rfl, ⟨hy3, hy4, hy5⟩, hb⟩
    replace hM := hM.callB hb; clear hb
    have hbx7 := hM.block (k := 0) rfl
    have hbs := hbs.trans (hM.below.mono hbs.size)
    have hx3 := hx3.mem hM
    have hx4 := hx4.mem hM
    have hx5 := hx5.mem hM
    have hbx4 := hM.keepB hbx4
    replace hM := Mem.start w5
    refine ⟨.tuple #[.agg #[.int .i64 G.kind, .int .i64 G.n, .int .i64 G.cap, .slice ay3 G.wt.length cy3, .slice ay4 G.vl.length cy4, .slice ay5 G.cost.length cy5], .int .i64 er], rfl, fun a hA => ?_⟩
    refine S.val hA (R.move rfl) rfl ?_; clear hA a; intro a hA
    refine S.val hA (R.extract (v := .agg #[.int .i64 G.kind, .int .i64 G.n, .int .i64 G.cap, .slice ay3 G.wt.length cy3, .slice ay4 G.vl.length cy4, .slice ay5 G.cost.length cy5]) rfl rfl) rfl ?_; clear hA a; intro a hA
    refine S.val hA (R.extract (v := .int .i64 er) rfl rfl) rfl ?_; clear hA a; intro a hA
    refine S.alloc hA hM info56 rfl rfl ?_; clear hA hM a; intro b8 w6 hb9 hM a hA
    replace hM : Mem _ _ [pt b8 #[.int .i64 0, .int .i64 0, .int .i64 0, .slice none 0 0, .slice none 0 0, .slice none 0 0] 56] _ := hM
    refine S.storeA (k := 0) hA hM sz56 rfl rfl rfl rfl rfl rfl ?_; clear hM
    intro w7 hM
    replace hM : Mem _ _ [pt b8 #[.int .i64 G.kind, .int .i64 G.n, .int .i64 G.cap, .slice ay3 G.wt.length cy3, .slice ay4 G.vl.length cy4, .slice ay5 G.cost.length cy5] 56] _ := hM
    refine S.val hA (R.assign rfl) rfl ?_; clear hA a; intro a hA
    refine S.done ?_
    replace hA : St 53 [(9, _), (10, _), (11, _), (12, _)] a := hA.sub ((.cons rfl (.cons rfl (.cons rfl (.cons rfl .nil)))))
    refine Ends.seq ?_
    refine Ends.region ?_
    refine S.call hA (R.callF Try.func17 rfl rfl rfl) rfl (gens_any _) ?_; clear hA a
    rintro e w8 ⟨rfl, rfl⟩
    refine ⟨.bool true, rfl, fun a hA => ?_⟩
    refine S.val hA (R.move rfl) rfl ?_; clear hA a; intro a hA
    refine S.valg (dj := 43) hA (by kernel_rfl) rfl (R.move rfl) rfl ?_; clear hA a; intro a hA
    refine S.valg (dj := 43) hA (by kernel_rfl) rfl (R.move rfl) rfl ?_; clear hA a; intro a hA
    refine S.valg (dj := 43) hA (by kernel_rfl) rfl (R.tt (R.eql rfl rfl) (by first | decide | simp | omega)) rfl ?_; clear hA a; intro a hA
    refine S.val hA (R.pickT rfl rfl) rfl ?_; clear hA a; intro a hA
    refine S.val hA (R.move rfl) rfl ?_; clear hA a; intro a hA
    refine S.valg (dj := 48) hA (by kernel_rfl) rfl (R.loadA sz56 rfl (hM.oldRange hbx7) rfl) rfl ?_; clear hA a; intro a hA
    refine S.valg (dj := 48) hA (by kernel_rfl) rfl (R.loadA sz56 rfl (hM.range (k := 0) rfl) rfl) rfl ?_; clear hA a; intro a hA
    refine S.callg (dj := 48) hA (by kernel_rfl) rfl (R.callF Try.func38 rfl rfl rfl) rfl (rSame_eq G ax3 cx3 ax4 cx4 ax5 cx5 ay3 cy3 ay4 cy4 ay5 cy5 _ (hx3.mem hM) (hx4.mem hM) (hx5.mem hM) (hy3.mem hM) (hy4.mem hM) (hy5.mem hM)) ?_; clear hA a
    rintro e w9 ⟨rfl, hb⟩
    replace hM := hM.callB hb; clear hb
    refine ⟨.bool true, rfl, fun a hA => ?_⟩
    refine S.val hA (R.pickT rfl rfl) rfl ?_; clear hA a; intro a hA
    refine S.val hA (R.assign rfl) rfl ?_; clear hA a; intro a hA
    refine S.done ?_
    replace hA : St 53 [(6, _)] a := hA.sub ((.cons rfl .nil))
    refine Ends.ret1 Try.func11 Try.results11 hA rfl ?_
    exact ⟨rfl, Mem.trans0 hbs hM.nilL⟩
  ·
    refine Ends.skip ?_
    refine Ends.seq ?_
    refine Ends.region ?_
    refine S.val hA (R.indexAddrA (q := 1) ar53 rfl rfl (by omega) (rfl)) rfl ?_; clear hA a; intro a hA
    refine S.val hA (R.load sz52 rfl (hM.cell (k := 0) rfl rfl)) rfl ?_; clear hA a; intro a hA
    refine S.val hA (R.to (v := .int .u64 q) (R.conv Try.underlying22 Try.underlying52 rfl) (congrArg (Value.int .u64) (by rw [IntKind.wrap_u64]; omega))) rfl ?_; clear hA a; intro a hA
    refine S.val hA (R.mul rfl rfl) rfl ?_; clear hA a; intro a hA
    refine S.val hA (R.assign rfl) rfl ?_; clear hA a; intro a hA
    refine S.done ?_
    replace hA : St 53 [(0, _), (1, _), (7, _), (8, _)] a := hA.sub ((.cons rfl (.cons rfl (.cons rfl (.cons rfl .nil)))))
    refine Ends.seq ?_
    refine Ends.region ?_
    refine S.val hA (R.move rfl) rfl ?_; clear hA a; intro a hA
    refine S.val hA (R.move rfl) rfl ?_; clear hA a; intro a hA
    refine S.val hA (R.move rfl) rfl ?_; clear hA a; intro a hA
    refine S.val hA (R.move rfl) rfl ?_; clear hA a; intro a hA
    obtain ⟨G, er, hG⟩ : ∃ G er, gmk kd n p (IntKind.u64.wrap (q * 4294967297)) = (G, er) := ⟨_, _, rfl⟩
    refine S.call hA (R.callF Try.func36 rfl rfl rfl) rfl (gMake kd n p (IntKind.u64.wrap (q * 4294967297)) G er hG _) ?_; clear hA a
    rintro e w10 ⟨ax3, cx3, ax4, cx4, ax5, cx5, rfl, ⟨hx3, hx4, hx5⟩, hb⟩
    replace hM := hM.callB hb; clear hb
    have hbx10 := hM.block (k := 0) rfl
    have hbs := hbs.trans (hM.below.mono hbs.size)
    replace hM := Mem.start w10
    refine ⟨.tuple #[.agg #[.int .i64 G.kind, .int .i64 G.n, .int .i64 G.cap, .slice ax3 G.wt.length cx3, .slice ax4 G.vl.length cx4, .slice ax5 G.cost.length cx5], .int .i64 er], rfl, fun a hA => ?_⟩
    refine S.val hA (R.move rfl) rfl ?_; clear hA a; intro a hA
    refine S.val hA (R.extract (v := .agg #[.int .i64 G.kind, .int .i64 G.n, .int .i64 G.cap, .slice ax3 G.wt.length cx3, .slice ax4 G.vl.length cx4, .slice ax5 G.cost.length cx5]) rfl rfl) rfl ?_; clear hA a; intro a hA
    refine S.val hA (R.extract (v := .int .i64 er) rfl rfl) rfl ?_; clear hA a; intro a hA
    refine S.alloc hA hM info56 rfl rfl ?_; clear hA hM a; intro b11 w11 hb12 hM a hA
    replace hM : Mem _ _ [pt b11 #[.int .i64 0, .int .i64 0, .int .i64 0, .slice none 0 0, .slice none 0 0, .slice none 0 0] 56] _ := hM
    refine S.storeA (k := 0) hA hM sz56 rfl rfl rfl rfl rfl rfl ?_; clear hM
    intro w12 hM
    replace hM : Mem _ _ [pt b11 #[.int .i64 G.kind, .int .i64 G.n, .int .i64 G.cap, .slice ax3 G.wt.length cx3, .slice ax4 G.vl.length cx4, .slice ax5 G.cost.length cx5] 56] _ := hM
    refine S.val hA (R.assign rfl) rfl ?_; clear hA a; intro a hA
    refine S.done ?_
    replace hA : St 53 [(0, _), (1, _), (7, _), (8, _), (9, _), (10, _)] a := hA.sub ((.cons rfl (.cons rfl (.cons rfl (.cons rfl (.cons rfl (.cons rfl .nil)))))))
    refine Ends.seq ?_
    refine Ends.region ?_
    refine S.val hA (R.move rfl) rfl ?_; clear hA a; intro a hA
    refine S.val hA (R.move rfl) rfl ?_; clear hA a; intro a hA
    refine S.val hA (R.move rfl) rfl ?_; clear hA a; intro a hA
    refine S.val hA (R.move rfl) rfl ?_; clear hA a; intro a hA
    refine S.call hA (R.callF Try.func37 rfl rfl rfl) rfl (rMake kd n p (IntKind.u64.wrap (q * 4294967297)) G er hG _) ?_; clear hA a
    rintro e w13 ⟨ay3, cy3, ay4, cy4, ay5, cy5, rfl, ⟨hy3, hy4, hy5⟩, hb⟩
    replace hM := hM.callB hb; clear hb
    have hbx13 := hM.block (k := 0) rfl
    have hbs := hbs.trans (hM.below.mono hbs.size)
    have hx3 := hx3.mem hM
    have hx4 := hx4.mem hM
    have hx5 := hx5.mem hM
    have hbx10 := hM.keepB hbx10
    replace hM := Mem.start w13
    refine ⟨.tuple #[.agg #[.int .i64 G.kind, .int .i64 G.n, .int .i64 G.cap, .slice ay3 G.wt.length cy3, .slice ay4 G.vl.length cy4, .slice ay5 G.cost.length cy5], .int .i64 er], rfl, fun a hA => ?_⟩
    refine S.val hA (R.move rfl) rfl ?_; clear hA a; intro a hA
    refine S.val hA (R.extract (v := .agg #[.int .i64 G.kind, .int .i64 G.n, .int .i64 G.cap, .slice ay3 G.wt.length cy3, .slice ay4 G.vl.length cy4, .slice ay5 G.cost.length cy5]) rfl rfl) rfl ?_; clear hA a; intro a hA
    refine S.val hA (R.extract (v := .int .i64 er) rfl rfl) rfl ?_; clear hA a; intro a hA
    refine S.alloc hA hM info56 rfl rfl ?_; clear hA hM a; intro b14 w14 hb15 hM a hA
    replace hM : Mem _ _ [pt b14 #[.int .i64 0, .int .i64 0, .int .i64 0, .slice none 0 0, .slice none 0 0, .slice none 0 0] 56] _ := hM
    refine S.storeA (k := 0) hA hM sz56 rfl rfl rfl rfl rfl rfl ?_; clear hM
    intro w15 hM
    replace hM : Mem _ _ [pt b14 #[.int .i64 G.kind, .int .i64 G.n, .int .i64 G.cap, .slice ay3 G.wt.length cy3, .slice ay4 G.vl.length cy4, .slice ay5 G.cost.length cy5] 56] _ := hM
    refine S.val hA (R.assign rfl) rfl ?_; clear hA a; intro a hA
    refine S.done ?_
    replace hA : St 53 [(9, _), (10, _), (11, _), (12, _)] a := hA.sub ((.cons rfl (.cons rfl (.cons rfl (.cons rfl .nil)))))
    refine Ends.seq ?_
    refine Ends.region ?_
    refine S.call hA (R.callF Try.func17 rfl rfl rfl) rfl (gens_any _) ?_; clear hA a
    rintro e w16 ⟨rfl, rfl⟩
    refine ⟨.bool true, rfl, fun a hA => ?_⟩
    refine S.val hA (R.move rfl) rfl ?_; clear hA a; intro a hA
    refine S.valg (dj := 43) hA (by kernel_rfl) rfl (R.move rfl) rfl ?_; clear hA a; intro a hA
    refine S.valg (dj := 43) hA (by kernel_rfl) rfl (R.move rfl) rfl ?_; clear hA a; intro a hA
    refine S.valg (dj := 43) hA (by kernel_rfl) rfl (R.tt (R.eql rfl rfl) (by first | decide | simp | omega)) rfl ?_; clear hA a; intro a hA
    refine S.val hA (R.pickT rfl rfl) rfl ?_; clear hA a; intro a hA
    refine S.val hA (R.move rfl) rfl ?_; clear hA a; intro a hA
    refine S.valg (dj := 48) hA (by kernel_rfl) rfl (R.loadA sz56 rfl (hM.oldRange hbx13) rfl) rfl ?_; clear hA a; intro a hA
    refine S.valg (dj := 48) hA (by kernel_rfl) rfl (R.loadA sz56 rfl (hM.range (k := 0) rfl) rfl) rfl ?_; clear hA a; intro a hA
    refine S.callg (dj := 48) hA (by kernel_rfl) rfl (R.callF Try.func38 rfl rfl rfl) rfl (rSame_eq G ax3 cx3 ax4 cx4 ax5 cx5 ay3 cy3 ay4 cy4 ay5 cy5 _ (hx3.mem hM) (hx4.mem hM) (hx5.mem hM) (hy3.mem hM) (hy4.mem hM) (hy5.mem hM)) ?_; clear hA a
    rintro e w17 ⟨rfl, hb⟩
    replace hM := hM.callB hb; clear hb
    refine ⟨.bool true, rfl, fun a hA => ?_⟩
    refine S.val hA (R.pickT rfl rfl) rfl ?_; clear hA a; intro a hA
    refine S.val hA (R.assign rfl) rfl ?_; clear hA a; intro a hA
    refine S.done ?_
    replace hA : St 53 [(6, _)] a := hA.sub ((.cons rfl .nil))
    refine Ends.ret1 Try.func11 Try.results11 hA rfl ?_
    exact ⟨rfl, Mem.trans0 hbs hM.nilL⟩
theorem u32_wf {a : Int} (h : (Lit.int .u32 a).wf = true) : 0 ≤ a ∧ a < 4294967296 := by
  have h2 : IntKind.u32.min ≤ a ∧ a ≤ IntKind.u32.max := by simpa [Lit.wf] using h
  have e1 : IntKind.u32.min = 0 := by decide
  have e2 : IntKind.u32.max = 4294967295 := by decide
  omega
theorem genMakes_any (kd n : Int) (l : List Int) (_hk : (Lit.int .i64 kd).wf = true) (_hn : (Lit.int .i64 n).wf = true) (hl : l.length = 2) (hw : ∀ x ∈ l, (Lit.int .u32 x).wf = true) (w : World) :
    Calls Try.prog 11 #[.int .i64 kd, .int .i64 n, .agg (l.map (Value.int .u32)).toArray] w fun e w' => e = .returned (.bool true) ∧ Below w.heap.size w w' := by
  match l, hl with
  | [a, b], _ => exact genMakes_w kd n a b (u32_wf (hw a (.head _))) (u32_wf (hw b (.tail _ (.head _)))) w
end Go.Proofs.Ytlkemphhbamcfaa
