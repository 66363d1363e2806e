/-
  GreedyStarts, part 5 of 6: what the code computes, and plain laws; no condition beside those that each theorem tells.
-/
import Derived.Test.YtnikajkklocncaaGreedyStartsD
import Derived.OpenShut
import Derived.ProofKit
import Derived.Deep.Slices
namespace Go.Proofs.Ytnikajkklocncaa
open Go.RowKit
def chB (i : Ins) (X : List Int) (c : Int) (p q : Nat) : BS3 := tr1 (costI i) i (X, c, false) p q
def rdB (i : Ins) (X : List Int) (c : Int) : BS3 := rndB (costI i) i (X, c, false)
def betI (i : Ins) (x : List Int) : List Int := if (costI i x).2 ≠ 0 then [] else betB (costI i) i x
theorem betI_no {i : Ins} {x : List Int} (h : ¬ (costI i x).2 = 0) : betI i x = [] := if_pos h
theorem betI_yes {i : Ins} {x : List Int} (h : (costI i x).2 = 0) : betI i x = betB (costI i) i x := if_neg (not_not_intro h)
theorem chB_len (i : Ins) (X : List Int) (c : Int) (p q : Nat) : (chB i X c p q).1.length = X.length := by
  unfold chB
  by_cases g : (costI i (chg i X p q)).2 = 0 ∧ (costI i (chg i X p q)).1 < c
  · rw [tr1_yes (s := (X, c, false)) g]; exact chg_len _ _ _ _
  · rw [tr1_no (s := (X, c, false)) g]
theorem chB_t {i : Ins} {s : BS3} {p q : Nat} (h : (chB i s.1 s.2.1 p q).2.2 = true) : tr1 (costI i) i s p q = chB i s.1 s.2.1 p q := by
  by_cases g : (costI i (chg i s.1 p q)).2 = 0 ∧ (costI i (chg i s.1 p q)).1 < s.2.1
  · unfold chB; rw [tr1_yes g, tr1_yes (s := (s.1, s.2.1, false)) g]
  · unfold chB at h; rw [tr1_no (s := (s.1, s.2.1, false)) g] at h; cases h
theorem chB_f {i : Ins} {s : BS3} {p q : Nat} (h : (chB i s.1 s.2.1 p q).2.2 = false) : chB i s.1 s.2.1 p q = (s.1, s.2.1, false) ∧ tr1 (costI i) i s p q = s := by
  by_cases g : (costI i (chg i s.1 p q)).2 = 0 ∧ (costI i (chg i s.1 p q)).1 < s.2.1
  · unfold chB at h; rw [tr1_yes (s := (s.1, s.2.1, false)) g] at h; cases h
  · unfold chB; exact ⟨tr1_no (s := (s.1, s.2.1, false)) g, tr1_no g⟩
theorem rdB_eq (i : Ins) (s : BS3) : rdB i s.1 s.2.1 = rndB (costI i) i s := by
  have h : ∀ m, othB (costI i) i (s.1, s.2.1, false) m = othB (costI i) i s m := fun m => by
    induction m with
    | zero => rfl
    | succ m ih => rw [othB, othB, ih]
  exact h _
theorem cost_len {i : Ins} {x : List Int} (h : (costI i x).2 = 0) : x.length = i.n.toNat := by
  have hz := costI_chk h
  have h1 := (chk_inF hz).n1
  by_cases hk : i.kind = 1
  · rw [costI_kn hz hk] at h
    unfold knpI at h
    split at h
    · cases h
    · rename_i g; omega
  · rw [costI_or hz hk] at h
    split at h
    · cases h
    · rename_i g; exact (Decidable.not_not.1 g).1.1
set_option maxRecDepth 100000 in
set_option maxHeartbeats 400000 in
theorem change10 (i : Ins) (ax3 : Option Addr) (cx3 : Nat) (ax4 : Option Addr) (cx4 : Nat) (ax5 : Option Addr) (cx5 : Nat) (sb : Nat) (xa : Option Addr) (xc : Nat) (X : List Int) (cc : Int) (p q : Nat) (hsm : i.wt.length ≤ 1000000 ∧ i.vl.length ≤ 1000000) (hF : InF i) (hXl : X.length = i.n.toNat) (hpq : p < q) (hqn : q < i.n.toNat) (w0 : World) (w : World) (hx3 : IntSl w0 (.slice ax3 i.wt.length cx3) i.wt) (hx4 : IntSl w0 (.slice ax4 i.vl.length cx4) i.vl) (hx5 : RowsV w0 (.slice ax5 i.cost.length cx5) i.cost) (hM : Mem w0 nof [pt sb #[.int .i64 i.kind, .int .i64 i.n, .int .i64 i.cap, .slice ax3 i.wt.length cx3, .slice ax4 i.vl.length cx4, .slice ax5 i.cost.length cx5, .slice xa X.length xc, .int .i64 cc] 55, rd xa xc X] w) :
  Calls Try.prog 66 #[.pointer (some ⟨sb, 0, none⟩), .int .i64 ((p : Int)), .int .i64 ((q : Int))] w fun e w' => ∃ ya yc, e = .returned (.bool (chB i X cc p q).2.2) ∧ Mem w0 nof [pt sb #[.int .i64 i.kind, .int .i64 i.n, .int .i64 i.cap, .slice ax3 i.wt.length cx3, .slice ax4 i.vl.length cx4, .slice ax5 i.cost.length cx5, .slice ya (((chB i X cc p q).1).length) yc, .int .i64 ((chB i X cc p q).2.1)] 55, rd ya yc ((chB i X cc p q).1)] w' := by
 have hbs := Below.refl (B := w.heap.size) w
 have f3 := hF.n64
 have hcb := cost_bd i (chg i X p q)
 refine Calls.of_ends (vs := [.pointer (some ⟨sb, 0, none⟩), .int .i64 ((p : Int)), .int .i64 ((q : Int))]) Try.func66 rfl Try.ntmps66 rfl ?_
 intro a hA
 replace hA : St 68 [(0, _), (1, _), (2, _)] a := hA
 refine Ends.seq (Ends.region ?_)
 refine S.val hA (R.assign rfl) rfl ?_; clear hA a; intro a hA
 refine S.done ?_
 refine Ends.seq (Ends.region ?_)
 refine S.val hA (R.move rfl) rfl ?_; clear hA a; intro a hA
 refine S.val hA (R.nilCheck rfl) rfl ?_; clear hA a; intro a hA
 refine S.val hA (R.fieldAddr (q := 6) fi55_1 rfl rfl rfl) rfl ?_; clear hA a; intro a hA
 refine S.val hA (R.load sz22 rfl (hM.cell (k := 0) rfl rfl)) rfl ?_; clear hA a; intro a hA
 refine S.call hA (R.callF Try.func49 rfl rfl rfl) rfl (clone09 xa X xc (by omega) _ (hM.rd (k := 1) rfl)) ?_; clear hA a
 rintro e w1 ⟨ga, gc, rfl, hn⟩
 replace hM : Mem _ _ [own 3 1 (.slice ga X.length gc) X.length (X.map (Value.int .i64)), pt sb #[.int .i64 i.kind, .int .i64 i.n, .int .i64 i.cap, .slice ax3 i.wt.length cx3, .slice ax4 i.vl.length cx4, .slice ax5 i.cost.length cx5, .slice xa X.length xc, .int .i64 cc] 55, rd xa xc X] _ := hM.call hn; clear hn
 refine ⟨.slice ga X.length gc, rfl, fun a hA => ?_⟩
 refine S.val hA (R.assign rfl) rfl ?_; clear hA a; intro a hA
 refine S.done ?_
 obtain ⟨g, hgg⟩ := hM.ownAt (k := 0) rfl (by omega)
 have hcl := (hM.ownLe (k := 0) rfl).1
 subst hgg
 replace hA : St 68 [(0, _), (1, _), (2, _), (7, _)] a := hA.sub ((.cons rfl (.cons rfl (.cons rfl (.cons rfl .nil)))))
 refine Ends.seq (Ends.seq (Ends.region ?_))
 refine S.val hA (R.move rfl) rfl ?_; clear hA a; intro a hA
 refine S.val hA (R.nilCheck rfl) rfl ?_; clear hA a; intro a hA
 refine S.val hA (R.fieldAddr (q := 0) fi55_0 rfl rfl rfl) rfl ?_; clear hA a; intro a hA
 refine S.val hA (R.fieldAddr (q := 0) fi25_0 rfl rfl rfl) rfl ?_; clear hA a; intro a hA
 refine S.val hA (R.load sz3 rfl (hM.cell (k := 1) rfl rfl)) rfl ?_; clear hA a; intro a hA
 refine S.val hA (R.eql rfl rfl) rfl ?_; clear hA a; intro a hA
 refine S.done ?_
 replace hA : St 68 [(0, _), (1, _), (2, _), (7, _), (20, _)] a := hA.sub ((.cons rfl (.cons rfl (.cons rfl (.cons rfl (.cons rfl .nil))))))
 refine Ends.ite hA rfl (fun hc1 => ?_) (fun hc1 => ?_)
 ·
  have hk3 := hc1
  refine Ends.region ?_
  refine S.val hA (R.move rfl) rfl ?_; clear hA a; intro a hA
  refine S.val hA (R.move rfl) rfl ?_; clear hA a; intro a hA
  refine S.val hA (R.move rfl) rfl ?_; clear hA a; intro a hA
  refine S.val hA (R.addI rfl rfl (r := ((q : Int)) + 1) rfl (by omega)) rfl ?_; clear hA a; intro a hA
  refine S.val hA (R.sliceLH (lo := p) (hi := q + 1) Try.underlying22 info3 rfl rfl rfl rfl (by omega) (by omega) (by omega) (by omega) (by omega)) rfl ?_; clear hA a; intro a hA
  refine S.call hA (R.callF Try.func73 rfl rfl rfl) rfl (rev09 g p (q + 1 - p) gc (gc - p) X (by omega) (by omega) _ (hM.hereN 1)) ?_; clear hA a
  rintro e w2 ⟨rfl, hn⟩
  replace hM : Mem _ _ [own 3 1 (.slice ((some ⟨g, 0, none⟩)) X.length gc) X.length (((revAt X p (q + 1 - p))).map (Value.int .i64)), pt sb #[.int .i64 i.kind, .int .i64 i.n, .int .i64 i.cap, .slice ax3 i.wt.length cx3, .slice ax4 i.vl.length cx4, .slice ax5 i.cost.length cx5, .slice xa X.length xc, .int .i64 cc] 55, rd xa xc X] _ := hM.callL 1 hn; clear hn
  refine ⟨(.tuple #[]), rfl, fun a hA => ?_⟩
  refine S.done ?_
  replace hA : St 68 [(0, _), (7, _)] a := hA.sub ((.cons rfl (.cons rfl .nil)))
  refine Ends.seq ?_
  have hY : (revAt X p (q + 1 - p)) = chg i X p q := by unfold revAt chg; rw [if_pos hk3]; exact rvS_at (by omega) (by omega)
  have hYl := chg_len i X p q
  obtain ⟨Y, hYd⟩ : ∃ Y, Y = chg i X p q := ⟨_, rfl⟩
  rw [← hYd] at hY hYl
  replace hM := Mem.eqL (L2 := [own 3 1 (.slice ((some ⟨g, 0, none⟩)) Y.length gc) Y.length (Y.map (Value.int .i64)), pt sb #[.int .i64 i.kind, .int .i64 i.n, .int .i64 i.cap, .slice ax3 i.wt.length cx3, .slice ax4 i.vl.length cx4, .slice ax5 i.cost.length cx5, .slice xa X.length xc, .int .i64 cc] 55, rd xa xc X]) hM (by rw [hYl, hY])
  rw [← hYl] at hA
  refine Ends.region ?_
  refine S.val hA (R.move rfl) rfl ?_; clear hA a; intro a hA
  refine S.val hA (R.nilCheck rfl) rfl ?_; clear hA a; intro a hA
  refine S.val hA (R.fieldAddr (q := 0) fi55_0 rfl rfl rfl) rfl ?_; clear hA a; intro a hA
  refine S.val hA (R.loadA sz25 rfl (hM.part (k := 1) rfl 0 6 rfl) rfl) rfl ?_; clear hA a; intro a hA
  refine S.val hA (R.move rfl) rfl ?_; clear hA a; intro a hA
  refine S.call hA (R.callF Try.func17 rfl rfl rfl) rfl (cost08 i ax3 cx3 ax4 cx4 ax5 cx5 ((some ⟨g, 0, none⟩)) Y gc hsm _ (hx3.mem hM) (hx4.mem hM) (hx5.mem hM) (hM.rsl (k := 0) rfl)) ?_; clear hA a
  rintro e w3 ⟨rfl, hb⟩
  replace hM := hM.callB hb; clear hb
  refine ⟨.tuple #[.int .i64 ((costI i Y).1), .int .i64 ((costI i Y).2)], rfl, fun a hA => ?_⟩
  refine S.val hA (R.move rfl) rfl ?_; clear hA a; intro a hA
  refine S.val hA (R.extract (v := .int .i64 ((costI i Y).1)) rfl rfl) rfl ?_; clear hA a; intro a hA
  refine S.val hA (R.extract (v := .int .i64 ((costI i Y).2)) rfl rfl) rfl ?_; clear hA a; intro a hA
  refine S.val hA (R.assign rfl) rfl ?_; clear hA a; intro a hA
  refine S.val hA (R.assign rfl) rfl ?_; clear hA a; intro a hA
  refine S.done ?_
  replace hA : St 68 [(0, _), (7, _), (8, _), (9, _)] a := hA.sub ((.cons rfl (.cons rfl (.cons rfl (.cons rfl .nil)))))
  refine Ends.seq (Ends.seq ?_)
  refine Ends.cut (fun (a : Act) (wv : World) => St 68 [(0, .pointer (some ⟨sb, 0, none⟩)), (7, .slice ((some ⟨g, 0, none⟩)) Y.length gc), (8, .int .i64 ((costI i Y).1)), (59, .bool (decide ((((costI i Y).2) ≠ 0 ∨ cc ≤ ((costI i Y).1)))))] a ∧ Mem w0 nof [own 3 1 (.slice ((some ⟨g, 0, none⟩)) Y.length gc) Y.length (Y.map (Value.int .i64)), pt sb #[.int .i64 i.kind, .int .i64 i.n, .int .i64 i.cap, .slice ax3 i.wt.length cx3, .slice ax4 i.vl.length cx4, .slice ax5 i.cost.length cx5, .slice xa X.length xc, .int .i64 cc] 55, rd xa xc X] wv) ?_ (fun k2 hJ => ?_)
  ·
   clear hA hM a; rintro a w4 ⟨hA, hM⟩
   refine Ends.ite hA rfl (fun hc2 => ?_) (fun hc2 => ?_)
   ·
    have hT : chB i X cc p q = (X, cc, false) := tr1_no (s := (X, cc, false)) (fun g => by
     have g1 : (costI i (chg i X p q)).2 = 0 := g.1
     have g2 : (costI i (chg i X p q)).1 < cc := g.2
     rw [← hYd] at g1 g2
     rcases hc2 with h9 | h9
     · exact h9 g1
     · omega)
    refine Ends.seq (Ends.region ?_)
    refine S.val hA (R.assign rfl) rfl ?_; clear hA a; intro a hA
    refine S.done ?_
    refine Ends.ret1 Try.func66 Try.results66 hA rfl ?_
    replace hM := hM.front (k := 2) rfl
    replace hM := hM.front (k := 2) rfl
    replace hM := hM.firstN 2
    rw [hT]
    exact ⟨_, _, rfl, hM⟩
   ·
    have h9 : (costI i Y).2 = 0 ∧ (costI i Y).1 < cc := ⟨Classical.byContradiction fun g => hc2 (.inl g), Classical.byContradiction fun g => hc2 (.inr (by omega))⟩
    have hT : chB i X cc p q = (Y, (costI i Y).1, true) := by rw [hYd] at h9 ⊢; exact tr1_yes (s := (X, cc, false)) h9
    refine Ends.skip (Ends.seq (Ends.region ?_))
    refine S.val hA (R.move rfl) rfl ?_; clear hA a; intro a hA
    refine S.val hA (R.move rfl) rfl ?_; clear hA a; intro a hA
    refine S.val hA (R.move rfl) rfl ?_; clear hA a; intro a hA
    refine S.val hA (R.move rfl) rfl ?_; clear hA a; intro a hA
    refine S.val hA (R.nilCheck rfl) rfl ?_; clear hA a; intro a hA
    refine S.val hA (R.fieldAddr (q := 6) fi55_1 rfl rfl rfl) rfl ?_; clear hA a; intro a hA
    refine S.store (k := 1) hA hM sz22 rfl rfl rfl rfl rfl ?_; clear hM
    intro w5 hM
    replace hM : Mem _ _ [own 3 1 (.slice ((some ⟨g, 0, none⟩)) Y.length gc) Y.length (Y.map (Value.int .i64)), pt sb #[.int .i64 i.kind, .int .i64 i.n, .int .i64 i.cap, .slice ax3 i.wt.length cx3, .slice ax4 i.vl.length cx4, .slice ax5 i.cost.length cx5, .slice ((some ⟨g, 0, none⟩)) Y.length gc, .int .i64 cc] 55, rd xa xc X] _ := hM
    refine S.val hA (R.nilCheck rfl) rfl ?_; clear hA a; intro a hA
    refine S.val hA (R.fieldAddr (q := 7) fi55_2 rfl rfl rfl) rfl ?_; clear hA a; intro a hA
    refine S.store (k := 1) hA hM sz3 rfl rfl rfl rfl rfl ?_; clear hM
    intro w6 hM
    replace hM : Mem _ _ [own 3 1 (.slice ((some ⟨g, 0, none⟩)) Y.length gc) Y.length (Y.map (Value.int .i64)), pt sb #[.int .i64 i.kind, .int .i64 i.n, .int .i64 i.cap, .slice ax3 i.wt.length cx3, .slice ax4 i.vl.length cx4, .slice ax5 i.cost.length cx5, .slice ((some ⟨g, 0, none⟩)) Y.length gc, .int .i64 ((costI i Y).1)] 55, rd xa xc X] _ := hM
    refine S.done ?_
    replace hA : St 68 [] a := hA.sub (.nil)
    refine Ends.seq (Ends.region ?_)
    refine S.val hA (R.assign rfl) rfl ?_; clear hA a; intro a hA
    refine S.done ?_
    refine Ends.ret1 Try.func66 Try.results66 hA rfl ?_
    replace hM := hM.ownRd
    replace hM : Mem _ _ [rd ((some ⟨g, 0, none⟩)) gc Y, pt sb #[.int .i64 i.kind, .int .i64 i.n, .int .i64 i.cap, .slice ax3 i.wt.length cx3, .slice ax4 i.vl.length cx4, .slice ax5 i.cost.length cx5, .slice ((some ⟨g, 0, none⟩)) Y.length gc, .int .i64 ((costI i Y).1)] 55, rd xa xc X] _ := hM
    replace hM := hM.front (k := 1) rfl
    replace hM := hM.firstN 2
    rw [hT]
    exact ⟨_, _, rfl, hM⟩
  ·
   refine Ends.region ?_
   refine S.val hA (R.move rfl) rfl ?_; clear hA a; intro a hA
   refine S.val hA (R.neq rfl rfl) rfl ?_; clear hA a; intro a hA
   refine S.val hA (R.move rfl) rfl ?_; clear hA a; intro a hA
   refine hA.split (d := 52) rfl ?_ ?_
   ·
    clear hA; intro hg3 hA
    refine S.no (dj := 52) hA (by kernel_rfl) rfl rfl rfl ?_; clear hA a; intro a hA
    refine S.no (dj := 52) hA (by kernel_rfl) rfl rfl rfl ?_; clear hA a; intro a hA
    refine S.no (dj := 52) hA (by kernel_rfl) rfl rfl rfl ?_; clear hA a; intro a hA
    refine S.no (dj := 52) hA (by kernel_rfl) rfl rfl rfl ?_; clear hA a; intro a hA
    refine S.no (dj := 52) hA (by kernel_rfl) rfl rfl rfl ?_; clear hA a; intro a hA
    refine S.no (dj := 52) hA (by kernel_rfl) rfl rfl rfl ?_; clear hA a; intro a hA
    refine S.val hA (R.pickT rfl rfl) rfl ?_; clear hA a; intro a hA
    refine S.done ?_
    replace hA : St 68 [(0, _), (7, _), (8, _), (59, _)] a := hA.sub ((.cons rfl (.cons rfl (.cons rfl (.cons rfl .nil)))))
    exact hJ _ _ ⟨hA.sub (.cons rfl (.cons rfl (.cons rfl (.cons (by first | rfl | exact congrArg (fun b => some (Value.bool b)) (by first | exact decide_eq_decide.2 (by omega) | exact or_bool (by omega) | exact and_bool (by omega) | (simp; done) | (simp [hg3]; done) | (have h80 := hg3; (try simp at h80); simp [h80]; done) | exact (decide_eq_false (fun h9 => hg3 h9.1)).symm)) .nil)))), hM⟩
   ·
    clear hA; intro hg3 hA
    refine S.valg (dj := 52) hA (by kernel_rfl) rfl (R.move rfl) rfl ?_; clear hA a; intro a hA
    refine S.valg (dj := 52) hA (by kernel_rfl) rfl (R.move rfl) rfl ?_; clear hA a; intro a hA
    refine S.valg (dj := 52) hA (by kernel_rfl) rfl (R.nilCheck rfl) rfl ?_; clear hA a; intro a hA
    refine S.valg (dj := 52) hA (by kernel_rfl) rfl (R.fieldAddr (q := 7) fi55_2 rfl rfl rfl) rfl ?_; clear hA a; intro a hA
    refine S.valg (dj := 52) hA (by kernel_rfl) rfl (R.load sz3 rfl (hM.cell (k := 1) rfl rfl)) rfl ?_; clear hA a; intro a hA
    refine S.valg (dj := 52) hA (by kernel_rfl) rfl (R.geq rfl rfl) rfl ?_; clear hA a; intro a hA
    refine S.val hA (R.pickF rfl rfl) rfl ?_; clear hA a; intro a hA
    refine S.done ?_
    replace hA : St 68 [(0, _), (7, _), (8, _), (59, _)] a := hA.sub ((.cons rfl (.cons rfl (.cons rfl (.cons rfl .nil)))))
    exact hJ _ _ ⟨hA.sub (.cons rfl (.cons rfl (.cons rfl (.cons (by first | rfl | exact congrArg (fun b => some (Value.bool b)) (by first | exact decide_eq_decide.2 (by omega) | exact or_bool (by omega) | exact and_bool (by omega) | (simp; done) | (simp [hg3]; done) | (have h80 := hg3; (try simp at h80); simp [h80]; done) | exact (decide_eq_false (fun h9 => hg3 h9.1)).symm)) .nil)))), hM⟩
 ·
  have hk3 := hc1
  refine Ends.drawn (Mem w0 nof [own 3 1 (.slice ((some ⟨g, 0, none⟩)) X.length gc) X.length (X.map (Value.int .i64)), pt sb #[.int .i64 i.kind, .int .i64 i.n, .int .i64 i.cap, .slice ax3 i.wt.length cx3, .slice ax4 i.vl.length cx4, .slice ax5 i.cost.length cx5, .slice xa X.length xc, .int .i64 cc] 55, rd xa xc X]) (.cons (0, true) (.cons (1, true) (.cons (2, true) (.cons (3, true) (.cons (4, true) (.cons (5, true) (.cons (6, true) (.cons (7, true) (.cons (8, true) (.cons (9, true) (.cons (10, true) (.cons (11, true) (.cons (12, true) (.cons (13, false) (.cons (14, true) (.cons (15, false) .nil)))))))))))))))) 13 mixed (by kernel_rfl) (by kernel_rfl) (by kernel_rfl) hM.drew ?_
  replace hM := hM.drew
  refine D.valF hA rfl (fun _ => R.move rfl) rfl ?_; clear hA a; intro a hA
  refine D.valF hA rfl (fun _ => R.move rfl) rfl ?_; clear hA a; intro a hA
  refine D.valF hA rfl (fun _ => R.move rfl) rfl ?_; clear hA a; intro a hA
  refine D.valF hA rfl (fun _ => R.move rfl) rfl ?_; clear hA a; intro a hA
  refine D.valF hA rfl (fun _ => R.move rfl) rfl ?_; clear hA a; intro a hA
  refine D.valF hA rfl (fun _ => R.move rfl) rfl ?_; clear hA a; intro a hA
  refine D.valF hA rfl (fun _ => R.indexAddr (q := q) sl22 rfl rfl (by omega) (by omega)) rfl ?_; clear hA a; intro a hA
  refine D.val hA rfl (by kernel_rfl) (fun _ hM => R.load sz3 rfl (hM.ownCell (k := 0) rfl (mapi_get _ _ (by omega)))) rfl ?_; clear hA a; intro a hA
  refine D.valF hA rfl (fun _ => R.move rfl) rfl ?_; clear hA a; intro a hA
  refine D.valF hA rfl (fun _ => R.move rfl) rfl ?_; clear hA a; intro a hA
  refine D.valF hA rfl (fun _ => R.indexAddr (q := p) sl22 rfl rfl (by omega) (by omega)) rfl ?_; clear hA a; intro a hA
  refine D.val hA rfl (by kernel_rfl) (fun _ hM => R.load sz3 rfl (hM.ownCell (k := 0) rfl (mapi_get _ _ (by omega)))) rfl ?_; clear hA a; intro a hA
  refine D.valF hA rfl (fun _ => R.indexAddr (q := p) sl22 rfl rfl (by omega) (by omega)) rfl ?_; clear hA a; intro a hA
  refine D.storeO (k := 0) hA hM rfl sz3 rfl rfl rfl rfl (mapi_get X p (by first | omega | (simp only [List.length_set]; omega) | (simp; done))) ?_; clear hM; intro w7 hM; rw [mapi_set] at hM
  refine ⟨fun _ hne => absurd rfl hne, ?_⟩
  replace hM : Mem _ _ [own 3 1 (.slice ((some ⟨g, 0, none⟩)) X.length gc) X.length (((X.set p (X.getD q 0))).map (Value.int .i64)), pt sb #[.int .i64 i.kind, .int .i64 i.n, .int .i64 i.cap, .slice ax3 i.wt.length cx3, .slice ax4 i.vl.length cx4, .slice ax5 i.cost.length cx5, .slice xa X.length xc, .int .i64 cc] 55, rd xa xc X] _ := hM
  refine D.valF hA rfl (fun _ => R.indexAddr (q := q) sl22 rfl rfl (by omega) (by omega)) rfl ?_; clear hA a; intro a hA
  refine D.storeO (k := 0) hA hM rfl sz3 rfl rfl rfl rfl (mapi_get ((X.set p (X.getD q 0))) q (by first | omega | (simp only [List.length_set]; omega) | (simp; done))) ?_; clear hM; intro w8 hM; rw [mapi_set] at hM
  refine ⟨fun hb0 => absurd hb0 (by decide), ?_⟩
  replace hM : Mem _ _ [own 3 1 (.slice ((some ⟨g, 0, none⟩)) X.length gc) X.length ((((X.set p (X.getD q 0)).set q (X.getD p 0))).map (Value.int .i64)), pt sb #[.int .i64 i.kind, .int .i64 i.n, .int .i64 i.cap, .slice ax3 i.wt.length cx3, .slice ax4 i.vl.length cx4, .slice ax5 i.cost.length cx5, .slice xa X.length xc, .int .i64 cc] 55, rd xa xc X] _ := hM
  refine D.done ?_
  replace hA : St 68 [(0, _), (7, _)] a := hA.sub ((.cons rfl (.cons rfl .nil)))
  refine Ends.seq ?_
  have hY : ((X.set p (X.getD q 0)).set q (X.getD p 0)) = chg i X p q := by unfold chg; rw [if_neg hk3]
  have hYl := chg_len i X p q
  obtain ⟨Y, hYd⟩ : ∃ Y, Y = chg i X p q := ⟨_, rfl⟩
  rw [← hYd] at hY hYl
  replace hM := Mem.eqL (L2 := [own 3 1 (.slice ((some ⟨g, 0, none⟩)) Y.length gc) Y.length (Y.map (Value.int .i64)), pt sb #[.int .i64 i.kind, .int .i64 i.n, .int .i64 i.cap, .slice ax3 i.wt.length cx3, .slice ax4 i.vl.length cx4, .slice ax5 i.cost.length cx5, .slice xa X.length xc, .int .i64 cc] 55, rd xa xc X]) hM (by rw [hYl, hY])
  rw [← hYl] at hA
  refine Ends.region ?_
  refine S.val hA (R.move rfl) rfl ?_; clear hA a; intro a hA
  refine S.val hA (R.nilCheck rfl) rfl ?_; clear hA a; intro a hA
  refine S.val hA (R.fieldAddr (q := 0) fi55_0 rfl rfl rfl) rfl ?_; clear hA a; intro a hA
  refine S.val hA (R.loadA sz25 rfl (hM.part (k := 1) rfl 0 6 rfl) rfl) rfl ?_; clear hA a; intro a hA
  refine S.val hA (R.move rfl) rfl ?_; clear hA a; intro a hA
  refine S.call hA (R.callF Try.func17 rfl rfl rfl) rfl (cost08 i ax3 cx3 ax4 cx4 ax5 cx5 ((some ⟨g, 0, none⟩)) Y gc hsm _ (hx3.mem hM) (hx4.mem hM) (hx5.mem hM) (hM.rsl (k := 0) rfl)) ?_; clear hA a
  rintro e w9 ⟨rfl, hb⟩
  replace hM := hM.callB hb; clear hb
  refine ⟨.tuple #[.int .i64 ((costI i Y).1), .int .i64 ((costI i Y).2)], rfl, fun a hA => ?_⟩
  refine S.val hA (R.move rfl) rfl ?_; clear hA a; intro a hA
  refine S.val hA (R.extract (v := .int .i64 ((costI i Y).1)) rfl rfl) rfl ?_; clear hA a; intro a hA
  refine S.val hA (R.extract (v := .int .i64 ((costI i Y).2)) rfl rfl) rfl ?_; clear hA a; intro a hA
  refine S.val hA (R.assign rfl) rfl ?_; clear hA a; intro a hA
  refine S.val hA (R.assign rfl) rfl ?_; clear hA a; intro a hA
  refine S.done ?_
  replace hA : St 68 [(0, _), (7, _), (8, _), (9, _)] a := hA.sub ((.cons rfl (.cons rfl (.cons rfl (.cons rfl .nil)))))
  refine Ends.seq (Ends.seq ?_)
  refine Ends.cut (fun (a : Act) (wv : World) => St 68 [(0, .pointer (some ⟨sb, 0, none⟩)), (7, .slice ((some ⟨g, 0, none⟩)) Y.length gc), (8, .int .i64 ((costI i Y).1)), (59, .bool (decide ((((costI i Y).2) ≠ 0 ∨ cc ≤ ((costI i Y).1)))))] a ∧ Mem w0 nof [own 3 1 (.slice ((some ⟨g, 0, none⟩)) Y.length gc) Y.length (Y.map (Value.int .i64)), pt sb #[.int .i64 i.kind, .int .i64 i.n, .int .i64 i.cap, .slice ax3 i.wt.length cx3, .slice ax4 i.vl.length cx4, .slice ax5 i.cost.length cx5, .slice xa X.length xc, .int .i64 cc] 55, rd xa xc X] wv) ?_ (fun k2 hJ => ?_)
  ·
   clear hA hM a; rintro a w10 ⟨hA, hM⟩
   refine Ends.ite hA rfl (fun hc4 => ?_) (fun hc4 => ?_)
   ·
    have hT : chB i X cc p q = (X, cc, false) := tr1_no (s := (X, cc, false)) (fun g => by
     have g1 : (costI i (chg i X p q)).2 = 0 := g.1
     have g2 : (costI i (chg i X p q)).1 < cc := g.2
     rw [← hYd] at g1 g2
     rcases hc4 with h9 | h9
     · exact h9 g1
     · omega)
    refine Ends.seq (Ends.region ?_)
    refine S.val hA (R.assign rfl) rfl ?_; clear hA a; intro a hA
    refine S.done ?_
    refine Ends.ret1 Try.func66 Try.results66 hA rfl ?_
    replace hM := hM.front (k := 2) rfl
    replace hM := hM.front (k := 2) rfl
    replace hM := hM.firstN 2
    rw [hT]
    exact ⟨_, _, rfl, hM⟩
   ·
    have h9 : (costI i Y).2 = 0 ∧ (costI i Y).1 < cc := ⟨Classical.byContradiction fun g => hc4 (.inl g), Classical.byContradiction fun g => hc4 (.inr (by omega))⟩
    have hT : chB i X cc p q = (Y, (costI i Y).1, true) := by rw [hYd] at h9 ⊢; exact tr1_yes (s := (X, cc, false)) h9
    refine Ends.skip (Ends.seq (Ends.region ?_))
    refine S.val hA (R.move rfl) rfl ?_; clear hA a; intro a hA
    refine S.val hA (R.move rfl) rfl ?_; clear hA a; intro a hA
    refine S.val hA (R.move rfl) rfl ?_; clear hA a; intro a hA
    refine S.val hA (R.move rfl) rfl ?_; clear hA a; intro a hA
    refine S.val hA (R.nilCheck rfl) rfl ?_; clear hA a; intro a hA
    refine S.val hA (R.fieldAddr (q := 6) fi55_1 rfl rfl rfl) rfl ?_; clear hA a; intro a hA
    refine S.store (k := 1) hA hM sz22 rfl rfl rfl rfl rfl ?_; clear hM
    intro w11 hM
    replace hM : Mem _ _ [own 3 1 (.slice ((some ⟨g, 0, none⟩)) Y.length gc) Y.length (Y.map (Value.int .i64)), pt sb #[.int .i64 i.kind, .int .i64 i.n, .int .i64 i.cap, .slice ax3 i.wt.length cx3, .slice ax4 i.vl.length cx4, .slice ax5 i.cost.length cx5, .slice ((some ⟨g, 0, none⟩)) Y.length gc, .int .i64 cc] 55, rd xa xc X] _ := hM
    refine S.val hA (R.nilCheck rfl) rfl ?_; clear hA a; intro a hA
    refine S.val hA (R.fieldAddr (q := 7) fi55_2 rfl rfl rfl) rfl ?_; clear hA a; intro a hA
    refine S.store (k := 1) hA hM sz3 rfl rfl rfl rfl rfl ?_; clear hM
    intro w12 hM
    replace hM : Mem _ _ [own 3 1 (.slice ((some ⟨g, 0, none⟩)) Y.length gc) Y.length (Y.map (Value.int .i64)), pt sb #[.int .i64 i.kind, .int .i64 i.n, .int .i64 i.cap, .slice ax3 i.wt.length cx3, .slice ax4 i.vl.length cx4, .slice ax5 i.cost.length cx5, .slice ((some ⟨g, 0, none⟩)) Y.length gc, .int .i64 ((costI i Y).1)] 55, rd xa xc X] _ := hM
    refine S.done ?_
    replace hA : St 68 [] a := hA.sub (.nil)
    refine Ends.seq (Ends.region ?_)
    refine S.val hA (R.assign rfl) rfl ?_; clear hA a; intro a hA
    refine S.done ?_
    refine Ends.ret1 Try.func66 Try.results66 hA rfl ?_
    replace hM := hM.ownRd
    replace hM : Mem _ _ [rd ((some ⟨g, 0, none⟩)) gc Y, pt sb #[.int .i64 i.kind, .int .i64 i.n, .int .i64 i.cap, .slice ax3 i.wt.length cx3, .slice ax4 i.vl.length cx4, .slice ax5 i.cost.length cx5, .slice ((some ⟨g, 0, none⟩)) Y.length gc, .int .i64 ((costI i Y).1)] 55, rd xa xc X] _ := hM
    replace hM := hM.front (k := 1) rfl
    replace hM := hM.firstN 2
    rw [hT]
    exact ⟨_, _, rfl, hM⟩
  ·
   refine Ends.region ?_
   refine S.val hA (R.move rfl) rfl ?_; clear hA a; intro a hA
   refine S.val hA (R.neq rfl rfl) rfl ?_; clear hA a; intro a hA
   refine S.val hA (R.move rfl) rfl ?_; clear hA a; intro a hA
   refine hA.split (d := 52) rfl ?_ ?_
   ·
    clear hA; intro hg5 hA
    refine S.no (dj := 52) hA (by kernel_rfl) rfl rfl rfl ?_; clear hA a; intro a hA
    refine S.no (dj := 52) hA (by kernel_rfl) rfl rfl rfl ?_; clear hA a; intro a hA
    refine S.no (dj := 52) hA (by kernel_rfl) rfl rfl rfl ?_; clear hA a; intro a hA
    refine S.no (dj := 52) hA (by kernel_rfl) rfl rfl rfl ?_; clear hA a; intro a hA
    refine S.no (dj := 52) hA (by kernel_rfl) rfl rfl rfl ?_; clear hA a; intro a hA
    refine S.no (dj := 52) hA (by kernel_rfl) rfl rfl rfl ?_; clear hA a; intro a hA
    refine S.val hA (R.pickT rfl rfl) rfl ?_; clear hA a; intro a hA
    refine S.done ?_
    replace hA : St 68 [(0, _), (7, _), (8, _), (59, _)] a := hA.sub ((.cons rfl (.cons rfl (.cons rfl (.cons rfl .nil)))))
    exact hJ _ _ ⟨hA.sub (.cons rfl (.cons rfl (.cons rfl (.cons (by first | rfl | exact congrArg (fun b => some (Value.bool b)) (by first | exact decide_eq_decide.2 (by omega) | exact or_bool (by omega) | exact and_bool (by omega) | (simp; done) | (simp [hg5]; done) | (have h80 := hg5; (try simp at h80); simp [h80]; done) | exact (decide_eq_false (fun h9 => hg5 h9.1)).symm)) .nil)))), hM⟩
   ·
    clear hA; intro hg5 hA
    refine S.valg (dj := 52) hA (by kernel_rfl) rfl (R.move rfl) rfl ?_; clear hA a; intro a hA
    refine S.valg (dj := 52) hA (by kernel_rfl) rfl (R.move rfl) rfl ?_; clear hA a; intro a hA
    refine S.valg (dj := 52) hA (by kernel_rfl) rfl (R.nilCheck rfl) rfl ?_; clear hA a; intro a hA
    refine S.valg (dj := 52) hA (by kernel_rfl) rfl (R.fieldAddr (q := 7) fi55_2 rfl rfl rfl) rfl ?_; clear hA a; intro a hA
    refine S.valg (dj := 52) hA (by kernel_rfl) rfl (R.load sz3 rfl (hM.cell (k := 1) rfl rfl)) rfl ?_; clear hA a; intro a hA
    refine S.valg (dj := 52) hA (by kernel_rfl) rfl (R.geq rfl rfl) rfl ?_; clear hA a; intro a hA
    refine S.val hA (R.pickF rfl rfl) rfl ?_; clear hA a; intro a hA
    refine S.done ?_
    replace hA : St 68 [(0, _), (7, _), (8, _), (59, _)] a := hA.sub ((.cons rfl (.cons rfl (.cons rfl (.cons rfl .nil)))))
    exact hJ _ _ ⟨hA.sub (.cons rfl (.cons rfl (.cons rfl (.cons (by first | rfl | exact congrArg (fun b => some (Value.bool b)) (by first | exact decide_eq_decide.2 (by omega) | exact or_bool (by omega) | exact and_bool (by omega) | (simp; done) | (simp [hg5]; done) | (have h80 := hg5; (try simp at h80); simp [h80]; done) | exact (decide_eq_false (fun h9 => hg5 h9.1)).symm)) .nil)))), hM⟩
set_option maxRecDepth 100000 in
set_option maxHeartbeats 400000 in
theorem round10 (i : Ins) (ax3 : Option Addr) (cx3 : Nat) (ax4 : Option Addr) (cx4 : Nat) (ax5 : Option Addr) (cx5 : Nat) (sb : Nat) (xa : Option Addr) (xc : Nat) (X : List Int) (cc : Int) (hsm : i.wt.length ≤ 1000000 ∧ i.vl.length ≤ 1000000) (hF : InF i) (hXl : X.length = i.n.toNat) (w0 : World) (w : World) (hx3 : IntSl w0 (.slice ax3 i.wt.length cx3) i.wt) (hx4 : IntSl w0 (.slice ax4 i.vl.length cx4) i.vl) (hx5 : RowsV w0 (.slice ax5 i.cost.length cx5) i.cost) (hM : Mem w0 nof [pt sb #[.int .i64 i.kind, .int .i64 i.n, .int .i64 i.cap, .slice ax3 i.wt.length cx3, .slice ax4 i.vl.length cx4, .slice ax5 i.cost.length cx5, .slice xa X.length xc, .int .i64 cc] 55, rd xa xc X] w) :
  Calls Try.prog 50 #[.pointer (some ⟨sb, 0, none⟩)] w fun e w' => ∃ ya yc, e = .returned (.bool (rdB i X cc).2.2) ∧ Mem w0 nof [pt sb #[.int .i64 i.kind, .int .i64 i.n, .int .i64 i.cap, .slice ax3 i.wt.length cx3, .slice ax4 i.vl.length cx4, .slice ax5 i.cost.length cx5, .slice ya (((rdB i X cc).1).length) yc, .int .i64 ((rdB i X cc).2.1)] 55, rd ya yc ((rdB i X cc).1)] w' := by
 have hbs := Below.refl (B := w.heap.size) w
 have f1 := hF.n1
 have f3 := hF.n64
 have hfl := frm_le i
 refine Calls.of_ends (vs := [.pointer (some ⟨sb, 0, none⟩)]) Try.func50 rfl Try.ntmps50 rfl ?_
 intro a hA
 replace hA : St 39 [(0, _)] a := hA
 refine Ends.seq (Ends.region ?_)
 refine S.val hA (R.assign rfl) rfl ?_; clear hA a; intro a hA
 refine S.done ?_
 refine Ends.seq (Ends.region ?_)
 refine S.val hA (R.assign rfl) rfl ?_; clear hA a; intro a hA
 refine S.done ?_
 refine Ends.seq (Ends.seq (Ends.region ?_))
 refine S.val hA (R.move rfl) rfl ?_; clear hA a; intro a hA
 refine S.val hA (R.nilCheck rfl) rfl ?_; clear hA a; intro a hA
 refine S.val hA (R.fieldAddr (q := 0) fi55_0 rfl rfl rfl) rfl ?_; clear hA a; intro a hA
 refine S.val hA (R.fieldAddr (q := 0) fi25_0 rfl rfl rfl) rfl ?_; clear hA a; intro a hA
 refine S.val hA (R.load sz3 rfl (hM.cell (k := 0) rfl rfl)) rfl ?_; clear hA a; intro a hA
 refine S.val hA (R.eql rfl rfl) rfl ?_; clear hA a; intro a hA
 refine S.done ?_
 replace hA : St 39 [(0, _), (3, _), (12, _)] a := hA.sub ((.cons rfl (.cons rfl (.cons rfl .nil))))
 refine Ends.ite hA rfl (fun hc1 => ?_) (fun hc1 => ?_)
 ·
  have hk3 := hc1
  have hfr : frm i = 1 := if_pos hk3
  refine Ends.region ?_
  refine S.val hA (R.assign rfl) rfl ?_; clear hA a; intro a hA
  refine S.done ?_
  refine Ends.seq (Ends.region ?_)
  refine S.val hA (R.assign rfl) rfl ?_; clear hA a; intro a hA
  refine S.done ?_
  refine Ends.seq (Ends.seq (Ends.region ?_))
  refine S.val hA (R.move rfl) rfl ?_; clear hA a; intro a hA
  refine S.val hA (R.to (v := .int .i64 (((frm i + 0 : Nat) : Int))) (R.assign rfl) (congrArg (Value.int .i64) (by omega))) rfl ?_; clear hA a; intro a hA
  refine S.done ?_
  refine Ends.block ?_
  refine Ends.loop (σ := Nat × BS3 × Option Addr × Nat) (fun (m, S0, xa1, xc1) (a : Act) (wv : World) => St 39 [(0, .pointer (some ⟨sb, 0, none⟩)), (4, .bool S0.2.2), (5, .int .i64 (((frm i + m : Nat) : Int)))] a ∧ Mem w0 nof [pt sb #[.int .i64 i.kind, .int .i64 i.n, .int .i64 i.cap, .slice ax3 i.wt.length cx3, .slice ax4 i.vl.length cx4, .slice ax5 i.cost.length cx5, .slice xa1 S0.1.length xc1, .int .i64 S0.2.1] 55, rd xa1 xc1 S0.1] wv ∧ (frm i + m ≤ i.n.toNat) ∧ (S0 = othB (costI i) i (X, cc, false) m) ∧ (S0.1.length = i.n.toNat)) (fun (m, S0, xa1, xc1) => i.n.toNat - (frm i + m)) ((0, (X, cc, false), xa, xc)) ⟨hA.sub ((.cons rfl (.cons rfl (.cons rfl .nil)))), hM, (by omega), rfl, hXl⟩ ?_
  clear hA hM a
  rintro ⟨m, S0, xa1, xc1⟩ a w1 ⟨hA, hM, hm, hS, hl1⟩ hNext
  refine Ends.seq (Ends.seq (Ends.region ?_))
  refine S.val hA (R.move rfl) rfl ?_; clear hA a; intro a hA
  refine S.val hA (R.move rfl) rfl ?_; clear hA a; intro a hA
  refine S.val hA (R.nilCheck rfl) rfl ?_; clear hA a; intro a hA
  refine S.val hA (R.fieldAddr (q := 0) fi55_0 rfl rfl rfl) rfl ?_; clear hA a; intro a hA
  refine S.val hA (R.fieldAddr (q := 1) fi25_1 rfl rfl rfl) rfl ?_; clear hA a; intro a hA
  refine S.val hA (R.load sz3 rfl (hM.cell (k := 0) rfl rfl)) rfl ?_; clear hA a; intro a hA
  refine S.val hA (R.lss rfl rfl) rfl ?_; clear hA a; intro a hA
  refine S.done ?_
  replace hA : St 39 [(0, _), (4, _), (5, _), (20, _)] a := hA.sub ((.cons rfl (.cons rfl (.cons rfl (.cons rfl .nil)))))
  refine Ends.ite hA rfl (fun hc2 => ?_) (fun hc2 => ?_)
  ·
   refine Ends.skip (Ends.seq (Ends.block (Ends.seq (Ends.region ?_))))
   refine S.val hA (R.move rfl) rfl ?_; clear hA a; intro a hA
   refine S.val hA (R.addI rfl rfl (r := ((frm i + m + 1 + 0 : Nat) : Int)) (by omega) (by omega)) rfl ?_; clear hA a; intro a hA
   refine S.val hA (R.assign rfl) rfl ?_; clear hA a; intro a hA
   refine S.done ?_
   refine Ends.block ?_
   refine Ends.loop (σ := Nat × BS3 × Option Addr × Nat) (fun (j, S2, xa2, xc2) (a : Act) (wv : World) => St 39 [(0, .pointer (some ⟨sb, 0, none⟩)), (4, .bool S2.2.2), (5, .int .i64 (((frm i + m : Nat) : Int))), (6, .int .i64 (((frm i + m + 1 + j : Nat) : Int)))] a ∧ Mem w0 nof [pt sb #[.int .i64 i.kind, .int .i64 i.n, .int .i64 i.cap, .slice ax3 i.wt.length cx3, .slice ax4 i.vl.length cx4, .slice ax5 i.cost.length cx5, .slice xa2 S2.1.length xc2, .int .i64 S2.2.1] 55, rd xa2 xc2 S2.1] wv ∧ (frm i + m + 1 + j ≤ i.n.toNat) ∧ (S2 = innB (costI i) i S0 (frm i + m) j) ∧ (S2.1.length = i.n.toNat)) (fun (j, S2, xa2, xc2) => i.n.toNat - (frm i + m + 1 + j)) ((0, S0, xa1, xc1)) ⟨hA.sub ((.cons rfl (.cons rfl (.cons rfl (.cons rfl .nil))))), hM, (by omega), rfl, hl1⟩ ?_
   clear hA hM a
   rintro ⟨j, S2, xa2, xc2⟩ a w2 ⟨hA, hM, hj, hS2, hl2⟩ hNext1
   refine Ends.seq (Ends.seq (Ends.region ?_))
   refine S.val hA (R.move rfl) rfl ?_; clear hA a; intro a hA
   refine S.val hA (R.move rfl) rfl ?_; clear hA a; intro a hA
   refine S.val hA (R.nilCheck rfl) rfl ?_; clear hA a; intro a hA
   refine S.val hA (R.fieldAddr (q := 0) fi55_0 rfl rfl rfl) rfl ?_; clear hA a; intro a hA
   refine S.val hA (R.fieldAddr (q := 1) fi25_1 rfl rfl rfl) rfl ?_; clear hA a; intro a hA
   refine S.val hA (R.load sz3 rfl (hM.cell (k := 0) rfl rfl)) rfl ?_; clear hA a; intro a hA
   refine S.val hA (R.lss rfl rfl) rfl ?_; clear hA a; intro a hA
   refine S.done ?_
   replace hA : St 39 [(0, _), (4, _), (5, _), (6, _), (31, _)] a := hA.sub ((.cons rfl (.cons rfl (.cons rfl (.cons rfl (.cons rfl .nil))))))
   refine Ends.ite hA rfl (fun hc3 => ?_) (fun hc3 => ?_)
   ·
    refine Ends.skip (Ends.seq (Ends.block (Ends.seq (Ends.region ?_))))
    refine S.val hA (R.move rfl) rfl ?_; clear hA a; intro a hA
    refine S.val hA (R.move rfl) rfl ?_; clear hA a; intro a hA
    refine S.val hA (R.move rfl) rfl ?_; clear hA a; intro a hA
    refine S.call hA (R.callF Try.func66 rfl rfl rfl) rfl (change10 i ax3 cx3 ax4 cx4 ax5 cx5 sb xa2 xc2 S2.1 S2.2.1 (frm i + m) (frm i + m + 1 + j) hsm hF hl2 (by omega) (by omega) w0 _ hx3 hx4 hx5 hM) ?_; clear hA a
    rintro e w3 ⟨ya3, yc3, rfl, hn⟩
    replace hM : Mem _ _ [pt sb #[.int .i64 i.kind, .int .i64 i.n, .int .i64 i.cap, .slice ax3 i.wt.length cx3, .slice ax4 i.vl.length cx4, .slice ax5 i.cost.length cx5, .slice ya3 (((chB i S2.1 S2.2.1 (frm i + m) (frm i + m + 1 + j)).1).length) yc3, .int .i64 ((chB i S2.1 S2.2.1 (frm i + m) (frm i + m + 1 + j)).2.1)] 55, rd ya3 yc3 ((chB i S2.1 S2.2.1 (frm i + m) (frm i + m + 1 + j)).1)] _ := hn; clear hn
    refine ⟨.bool ((chB i S2.1 S2.2.1 (frm i + m) (frm i + m + 1 + j)).2.2), rfl, fun a hA => ?_⟩
    refine S.done ?_
    replace hA : St 39 [(0, _), (4, _), (5, _), (6, _), (37, _)] a := hA.sub ((.cons rfl (.cons rfl (.cons rfl (.cons rfl (.cons rfl .nil))))))
    refine Ends.iteB hA rfl (fun hc4 => ?_) (fun hc4 => ?_)
    ·
     have hT := chB_t hc4
     refine Ends.region ?_
     refine S.val hA (R.to (v := .bool ((chB i S2.1 S2.2.1 (frm i + m) (frm i + m + 1 + j)).2.2)) (R.assign rfl) (congrArg Value.bool hc4.symm)) rfl ?_; clear hA a; intro a hA
     refine S.done ?_
     refine Ends.inBlock (Ends.region ?_)
     refine S.val hA (R.move rfl) rfl ?_; clear hA a; intro a hA
     refine S.val hA (R.addI rfl rfl (r := ((frm i + m + 1 + (j + 1) : Nat) : Int)) (by omega) (by omega)) rfl ?_; clear hA a; intro a hA
     refine S.val hA (R.assign rfl) rfl ?_; clear hA a; intro a hA
     refine S.done ?_
     exact hNext1 ((j + 1, (chB i S2.1 S2.2.1 (frm i + m) (frm i + m + 1 + j)), ya3, yc3)) _ _ ((by show i.n.toNat - (frm i + m + 1 + (j + 1)) < i.n.toNat - (frm i + m + 1 + j); omega)) ⟨hA.sub ((.cons rfl (.cons rfl (.cons rfl (.cons rfl .nil))))), hM, (by omega), (by rw [innB, ← hS2]; exact hT.symm), (by rw [chB_len]; exact hl2)⟩
    ·
     have hT := chB_f hc4
     refine Ends.skip (Ends.inBlock (Ends.region ?_))
     refine S.val hA (R.move rfl) rfl ?_; clear hA a; intro a hA
     refine S.val hA (R.addI rfl rfl (r := ((frm i + m + 1 + (j + 1) : Nat) : Int)) (by omega) (by omega)) rfl ?_; clear hA a; intro a hA
     refine S.val hA (R.assign rfl) rfl ?_; clear hA a; intro a hA
     refine S.done ?_
     rw [hT.1] at hM
     replace hM : Mem _ _ [pt sb #[.int .i64 i.kind, .int .i64 i.n, .int .i64 i.cap, .slice ax3 i.wt.length cx3, .slice ax4 i.vl.length cx4, .slice ax5 i.cost.length cx5, .slice ya3 S2.1.length yc3, .int .i64 S2.2.1] 55, rd ya3 yc3 S2.1] _ := hM
     exact hNext1 ((j + 1, S2, ya3, yc3)) _ _ ((by show i.n.toNat - (frm i + m + 1 + (j + 1)) < i.n.toNat - (frm i + m + 1 + j); omega)) ⟨hA.sub ((.cons rfl (.cons rfl (.cons rfl (.cons rfl .nil))))), hM, (by omega), (by rw [innB, ← hS2]; exact hT.2.symm), hl2⟩
   ·
    have hje : j = i.n.toNat - 1 - (frm i + m) := by omega
    refine Ends.exit rfl ?_
    refine Ends.inBlock (Ends.region ?_)
    refine S.val hA (R.move rfl) rfl ?_; clear hA a; intro a hA
    refine S.val hA (R.addI rfl rfl (r := ((frm i + (m + 1) : Nat) : Int)) (by omega) (by omega)) rfl ?_; clear hA a; intro a hA
    refine S.val hA (R.assign rfl) rfl ?_; clear hA a; intro a hA
    refine S.done ?_
    replace hA : St 39 [(0, _), (4, _), (5, _)] a := hA.sub ((.cons rfl (.cons rfl (.cons rfl .nil))))
    exact hNext ((m + 1, S2, xa2, xc2)) _ _ ((by show i.n.toNat - (frm i + (m + 1)) < i.n.toNat - (frm i + m); omega)) ⟨hA.sub ((.cons rfl (.cons rfl (.cons rfl .nil)))), hM, (by omega), (by rw [othB, ← hS, ← hje]; exact hS2), hl2⟩
  ·
   refine Ends.exit rfl ?_
   refine Ends.seq (Ends.region ?_)
   refine S.val hA (R.move rfl) rfl ?_; clear hA a; intro a hA
   refine S.val hA (R.assign rfl) rfl ?_; clear hA a; intro a hA
   refine S.done ?_
   replace hA : St 39 [(2, _)] a := hA.sub ((.cons rfl .nil))
   refine Ends.ret1 Try.func50 Try.results50 hA rfl ?_
   have hT : S0 = rdB i X cc := by rw [hS, show m = i.n.toNat - frm i by omega]; rfl
   rw [← hT]
   exact ⟨_, _, rfl, hM⟩
 ·
  have hk3 := hc1
  have hfr : frm i = 0 := if_neg hk3
  refine Ends.skip (Ends.seq (Ends.region ?_))
  refine S.val hA (R.assign rfl) rfl ?_; clear hA a; intro a hA
  refine S.done ?_
  refine Ends.seq (Ends.seq (Ends.region ?_))
  refine S.val hA (R.move rfl) rfl ?_; clear hA a; intro a hA
  refine S.val hA (R.to (v := .int .i64 (((frm i + 0 : Nat) : Int))) (R.assign rfl) (congrArg (Value.int .i64) (by omega))) rfl ?_; clear hA a; intro a hA
  refine S.done ?_
  refine Ends.block ?_
  refine Ends.loop (σ := Nat × BS3 × Option Addr × Nat) (fun (m, S0, xa1, xc1) (a : Act) (wv : World) => St 39 [(0, .pointer (some ⟨sb, 0, none⟩)), (4, .bool S0.2.2), (5, .int .i64 (((frm i + m : Nat) : Int)))] a ∧ Mem w0 nof [pt sb #[.int .i64 i.kind, .int .i64 i.n, .int .i64 i.cap, .slice ax3 i.wt.length cx3, .slice ax4 i.vl.length cx4, .slice ax5 i.cost.length cx5, .slice xa1 S0.1.length xc1, .int .i64 S0.2.1] 55, rd xa1 xc1 S0.1] wv ∧ (frm i + m ≤ i.n.toNat) ∧ (S0 = othB (costI i) i (X, cc, false) m) ∧ (S0.1.length = i.n.toNat)) (fun (m, S0, xa1, xc1) => i.n.toNat - (frm i + m)) ((0, (X, cc, false), xa, xc)) ⟨hA.sub ((.cons rfl (.cons rfl (.cons rfl .nil)))), hM, (by omega), rfl, hXl⟩ ?_
  clear hA hM a
  rintro ⟨m, S0, xa1, xc1⟩ a w4 ⟨hA, hM, hm, hS, hl1⟩ hNext
  refine Ends.seq (Ends.seq (Ends.region ?_))
  refine S.val hA (R.move rfl) rfl ?_; clear hA a; intro a hA
  refine S.val hA (R.move rfl) rfl ?_; clear hA a; intro a hA
  refine S.val hA (R.nilCheck rfl) rfl ?_; clear hA a; intro a hA
  refine S.val hA (R.fieldAddr (q := 0) fi55_0 rfl rfl rfl) rfl ?_; clear hA a; intro a hA
  refine S.val hA (R.fieldAddr (q := 1) fi25_1 rfl rfl rfl) rfl ?_; clear hA a; intro a hA
  refine S.val hA (R.load sz3 rfl (hM.cell (k := 0) rfl rfl)) rfl ?_; clear hA a; intro a hA
  refine S.val hA (R.lss rfl rfl) rfl ?_; clear hA a; intro a hA
  refine S.done ?_
  replace hA : St 39 [(0, _), (4, _), (5, _), (20, _)] a := hA.sub ((.cons rfl (.cons rfl (.cons rfl (.cons rfl .nil)))))
  refine Ends.ite hA rfl (fun hc5 => ?_) (fun hc5 => ?_)
  ·
   refine Ends.skip (Ends.seq (Ends.block (Ends.seq (Ends.region ?_))))
   refine S.val hA (R.move rfl) rfl ?_; clear hA a; intro a hA
   refine S.val hA (R.addI rfl rfl (r := ((frm i + m + 1 + 0 : Nat) : Int)) (by omega) (by omega)) rfl ?_; clear hA a; intro a hA
   refine S.val hA (R.assign rfl) rfl ?_; clear hA a; intro a hA
   refine S.done ?_
   refine Ends.block ?_
   refine Ends.loop (σ := Nat × BS3 × Option Addr × Nat) (fun (j, S2, xa2, xc2) (a : Act) (wv : World) => St 39 [(0, .pointer (some ⟨sb, 0, none⟩)), (4, .bool S2.2.2), (5, .int .i64 (((frm i + m : Nat) : Int))), (6, .int .i64 (((frm i + m + 1 + j : Nat) : Int)))] a ∧ Mem w0 nof [pt sb #[.int .i64 i.kind, .int .i64 i.n, .int .i64 i.cap, .slice ax3 i.wt.length cx3, .slice ax4 i.vl.length cx4, .slice ax5 i.cost.length cx5, .slice xa2 S2.1.length xc2, .int .i64 S2.2.1] 55, rd xa2 xc2 S2.1] wv ∧ (frm i + m + 1 + j ≤ i.n.toNat) ∧ (S2 = innB (costI i) i S0 (frm i + m) j) ∧ (S2.1.length = i.n.toNat)) (fun (j, S2, xa2, xc2) => i.n.toNat - (frm i + m + 1 + j)) ((0, S0, xa1, xc1)) ⟨hA.sub ((.cons rfl (.cons rfl (.cons rfl (.cons rfl .nil))))), hM, (by omega), rfl, hl1⟩ ?_
   clear hA hM a
   rintro ⟨j, S2, xa2, xc2⟩ a w5 ⟨hA, hM, hj, hS2, hl2⟩ hNext1
   refine Ends.seq (Ends.seq (Ends.region ?_))
   refine S.val hA (R.move rfl) rfl ?_; clear hA a; intro a hA
   refine S.val hA (R.move rfl) rfl ?_; clear hA a; intro a hA
   refine S.val hA (R.nilCheck rfl) rfl ?_; clear hA a; intro a hA
   refine S.val hA (R.fieldAddr (q := 0) fi55_0 rfl rfl rfl) rfl ?_; clear hA a; intro a hA
   refine S.val hA (R.fieldAddr (q := 1) fi25_1 rfl rfl rfl) rfl ?_; clear hA a; intro a hA
   refine S.val hA (R.load sz3 rfl (hM.cell (k := 0) rfl rfl)) rfl ?_; clear hA a; intro a hA
   refine S.val hA (R.lss rfl rfl) rfl ?_; clear hA a; intro a hA
   refine S.done ?_
   replace hA : St 39 [(0, _), (4, _), (5, _), (6, _), (31, _)] a := hA.sub ((.cons rfl (.cons rfl (.cons rfl (.cons rfl (.cons rfl .nil))))))
   refine Ends.ite hA rfl (fun hc6 => ?_) (fun hc6 => ?_)
   ·
    refine Ends.skip (Ends.seq (Ends.block (Ends.seq (Ends.region ?_))))
    refine S.val hA (R.move rfl) rfl ?_; clear hA a; intro a hA
    refine S.val hA (R.move rfl) rfl ?_; clear hA a; intro a hA
    refine S.val hA (R.move rfl) rfl ?_; clear hA a; intro a hA
    refine S.call hA (R.callF Try.func66 rfl rfl rfl) rfl (change10 i ax3 cx3 ax4 cx4 ax5 cx5 sb xa2 xc2 S2.1 S2.2.1 (frm i + m) (frm i + m + 1 + j) hsm hF hl2 (by omega) (by omega) w0 _ hx3 hx4 hx5 hM) ?_; clear hA a
    rintro e w6 ⟨ya3, yc3, rfl, hn⟩
    replace hM : Mem _ _ [pt sb #[.int .i64 i.kind, .int .i64 i.n, .int .i64 i.cap, .slice ax3 i.wt.length cx3, .slice ax4 i.vl.length cx4, .slice ax5 i.cost.length cx5, .slice ya3 (((chB i S2.1 S2.2.1 (frm i + m) (frm i + m + 1 + j)).1).length) yc3, .int .i64 ((chB i S2.1 S2.2.1 (frm i + m) (frm i + m + 1 + j)).2.1)] 55, rd ya3 yc3 ((chB i S2.1 S2.2.1 (frm i + m) (frm i + m + 1 + j)).1)] _ := hn; clear hn
    refine ⟨.bool ((chB i S2.1 S2.2.1 (frm i + m) (frm i + m + 1 + j)).2.2), rfl, fun a hA => ?_⟩
    refine S.done ?_
    replace hA : St 39 [(0, _), (4, _), (5, _), (6, _), (37, _)] a := hA.sub ((.cons rfl (.cons rfl (.cons rfl (.cons rfl (.cons rfl .nil))))))
    refine Ends.iteB hA rfl (fun hc7 => ?_) (fun hc7 => ?_)
    ·
     have hT := chB_t hc7
     refine Ends.region ?_
     refine S.val hA (R.to (v := .bool ((chB i S2.1 S2.2.1 (frm i + m) (frm i + m + 1 + j)).2.2)) (R.assign rfl) (congrArg Value.bool hc7.symm)) rfl ?_; clear hA a; intro a hA
     refine S.done ?_
     refine Ends.inBlock (Ends.region ?_)
     refine S.val hA (R.move rfl) rfl ?_; clear hA a; intro a hA
     refine S.val hA (R.addI rfl rfl (r := ((frm i + m + 1 + (j + 1) : Nat) : Int)) (by omega) (by omega)) rfl ?_; clear hA a; intro a hA
     refine S.val hA (R.assign rfl) rfl ?_; clear hA a; intro a hA
     refine S.done ?_
     exact hNext1 ((j + 1, (chB i S2.1 S2.2.1 (frm i + m) (frm i + m + 1 + j)), ya3, yc3)) _ _ ((by show i.n.toNat - (frm i + m + 1 + (j + 1)) < i.n.toNat - (frm i + m + 1 + j); omega)) ⟨hA.sub ((.cons rfl (.cons rfl (.cons rfl (.cons rfl .nil))))), hM, (by omega), (by rw [innB, ← hS2]; exact hT.symm), (by rw [chB_len]; exact hl2)⟩
    ·
     have hT := chB_f hc7
     refine Ends.skip (Ends.inBlock (Ends.region ?_))
     refine S.val hA (R.move rfl) rfl ?_; clear hA a; intro a hA
     refine S.val hA (R.addI rfl rfl (r := ((frm i + m + 1 + (j + 1) : Nat) : Int)) (by omega) (by omega)) rfl ?_; clear hA a; intro a hA
     refine S.val hA (R.assign rfl) rfl ?_; clear hA a; intro a hA
     refine S.done ?_
     rw [hT.1] at hM
     replace hM : Mem _ _ [pt sb #[.int .i64 i.kind, .int .i64 i.n, .int .i64 i.cap, .slice ax3 i.wt.length cx3, .slice ax4 i.vl.length cx4, .slice ax5 i.cost.length cx5, .slice ya3 S2.1.length yc3, .int .i64 S2.2.1] 55, rd ya3 yc3 S2.1] _ := hM
     exact hNext1 ((j + 1, S2, ya3, yc3)) _ _ ((by show i.n.toNat - (frm i + m + 1 + (j + 1)) < i.n.toNat - (frm i + m + 1 + j); omega)) ⟨hA.sub ((.cons rfl (.cons rfl (.cons rfl (.cons rfl .nil))))), hM, (by omega), (by rw [innB, ← hS2]; exact hT.2.symm), hl2⟩
   ·
    have hje : j = i.n.toNat - 1 - (frm i + m) := by omega
    refine Ends.exit rfl ?_
    refine Ends.inBlock (Ends.region ?_)
    refine S.val hA (R.move rfl) rfl ?_; clear hA a; intro a hA
    refine S.val hA (R.addI rfl rfl (r := ((frm i + (m + 1) : Nat) : Int)) (by omega) (by omega)) rfl ?_; clear hA a; intro a hA
    refine S.val hA (R.assign rfl) rfl ?_; clear hA a; intro a hA
    refine S.done ?_
    replace hA : St 39 [(0, _), (4, _), (5, _)] a := hA.sub ((.cons rfl (.cons rfl (.cons rfl .nil))))
    exact hNext ((m + 1, S2, xa2, xc2)) _ _ ((by show i.n.toNat - (frm i + (m + 1)) < i.n.toNat - (frm i + m); omega)) ⟨hA.sub ((.cons rfl (.cons rfl (.cons rfl .nil)))), hM, (by omega), (by rw [othB, ← hS, ← hje]; exact hS2), hl2⟩
  ·
   refine Ends.exit rfl ?_
   refine Ends.seq (Ends.region ?_)
   refine S.val hA (R.move rfl) rfl ?_; clear hA a; intro a hA
   refine S.val hA (R.assign rfl) rfl ?_; clear hA a; intro a hA
   refine S.done ?_
   replace hA : St 39 [(2, _)] a := hA.sub ((.cons rfl .nil))
   refine Ends.ret1 Try.func50 Try.results50 hA rfl ?_
   have hT : S0 = rdB i X cc := by rw [hS, show m = i.n.toNat - frm i by omega]; rfl
   rw [← hT]
   exact ⟨_, _, rfl, hM⟩
theorem oth_len {i : Ins} (s : BS3) : ∀ m, (othB (costI i) i s m).1.length = s.1.length
  | 0 => rfl
  | m + 1 => by
    have h : ∀ (t : BS3) (p j : Nat), (innB (costI i) i t p j).1.length = t.1.length := fun t p j => by
      induction j with
      | zero => rfl
      | succ j ih =>
        rw [innB]
        by_cases g : (costI i (chg i (innB (costI i) i t p j).1 p (p + 1 + j))).2 = 0 ∧ (costI i (chg i (innB (costI i) i t p j).1 p (p + 1 + j))).1 < (innB (costI i) i t p j).2.1
        · rw [tr1_yes g]; show (chg _ _ _ _).length = _; rw [chg_len]; exact ih
        · rw [tr1_no g]; exact ih
    rw [othB, h]; exact oth_len s m
theorem rnds_len {i : Ins} {s : BS3} : ∀ r, (rndsB (costI i) i s r).1.length = s.1.length
  | 0 => rfl
  | r + 1 => by
    rw [rndsB]; split
    · exact (oth_len _ _).trans (rnds_len r)
    · exact rnds_len r
theorem betI_len {i : Ins} {x : List Int} (h : (costI i x).2 = 0) : (betI i x).length = i.n.toNat := by
  rw [betI_yes h]; exact (rnds_len 50).trans (cost_len h)
theorem rdlen10 {i : Ins} {x : List Int} {n : Nat} (h : x.length = n) (r : Nat) : (rndB (costI i) i (rndsB (costI i) i (x, (costI i x).1, true) r)).1.length = n := by
  have h1 := oth_len (i := i) (rndsB (costI i) i (x, (costI i x).1, true) r) (i.n.toNat - frm i)
  rw [rnds_len] at h1
  exact h1.trans h
set_option maxRecDepth 100000 in
set_option maxHeartbeats 400000 in
theorem better10F (i : Ins) (ax3 : Option Addr) (cx3 : Nat) (ax4 : Option Addr) (cx4 : Nat) (ax5 : Option Addr) (cx5 : Nat) (ay : Option Addr) (x : List Int) (cy : Nat) (hsm : i.wt.length ≤ 1000000 ∧ i.vl.length ≤ 1000000) (w : World) (hx3 : IntSl w (.slice ax3 i.wt.length cx3) i.wt) (hx4 : IntSl w (.slice ax4 i.vl.length cx4) i.vl) (hx5 : RowsV w (.slice ax5 i.cost.length cx5) i.cost) (hy : IntSl w (.slice ay x.length cy) x) :
  Calls Try.prog 29 #[.agg #[.int .i64 i.kind, .int .i64 i.n, .int .i64 i.cap, .slice ax3 i.wt.length cx3, .slice ax4 i.vl.length cx4, .slice ax5 i.cost.length cx5], .slice ay x.length cy] w fun e w' => ∃ a c, e = .returned (.tuple #[.slice a ((betI i x)).length c, .int .i64 ((costI i x).2)]) ∧ IntSl w' (.slice a ((betI i x)).length c) ((betI i x)) ∧ frs w.heap.size a ∧ Below w.heap.size w w' := by
 have hbs := Below.refl (B := w.heap.size) w
 have hM := Mem.start w
 refine Calls.of_ends (vs := [.agg #[.int .i64 i.kind, .int .i64 i.n, .int .i64 i.cap, .slice ax3 i.wt.length cx3, .slice ax4 i.vl.length cx4, .slice ax5 i.cost.length cx5], .slice ay x.length cy]) Try.func29 rfl Try.ntmps29 rfl ?_
 intro a hA
 replace hA : St 37 [(0, _), (1, _)] a := hA
 refine Ends.seq (Ends.region ?_)
 refine S.box hA hM rfl rfl ?_; clear hA hM a; intro b1 w1 hb2 hM a hA
 replace hM : Mem _ _ [pt b1 #[.int .i64 i.kind, .int .i64 i.n, .int .i64 i.cap, .slice ax3 i.wt.length cx3, .slice ax4 i.vl.length cx4, .slice ax5 i.cost.length cx5] 25] _ := hM
 refine S.val hA (R.assign rfl) rfl ?_; clear hA a; intro a hA
 refine S.val hA (R.assign rfl) rfl ?_; clear hA a; intro a hA
 refine S.done ?_
 refine Ends.seq (Ends.region ?_)
 refine S.val hA (R.loadA sz25 rfl (hM.range (k := 0) rfl) rfl) rfl ?_; clear hA a; intro a hA
 refine S.val hA (R.move rfl) rfl ?_; clear hA a; intro a hA
 refine S.call hA (R.callF Try.func17 rfl rfl rfl) rfl (cost08 i ax3 cx3 ax4 cx4 ax5 cx5 ay x cy hsm _ (hx3.mem hM) (hx4.mem hM) (hx5.mem hM) (hy.mem hM)) ?_; clear hA a
 rintro e w2 ⟨rfl, hb⟩
 replace hM := hM.callB hb; clear hb
 refine ⟨.tuple #[.int .i64 ((costI i x).1), .int .i64 ((costI i x).2)], rfl, fun a hA => ?_⟩
 refine S.val hA (R.move rfl) rfl ?_; clear hA a; intro a hA
 refine S.val hA (R.extract (v := .int .i64 ((costI i x).1)) rfl rfl) rfl ?_; clear hA a; intro a hA
 refine S.val hA (R.extract (v := .int .i64 ((costI i x).2)) rfl rfl) rfl ?_; clear hA a; intro a hA
 refine S.val hA (R.assign rfl) rfl ?_; clear hA a; intro a hA
 refine S.val hA (R.assign rfl) rfl ?_; clear hA a; intro a hA
 refine S.done ?_
 replace hA : St 37 [(1, _), (2, _), (6, _), (7, _)] a := hA.sub ((.cons rfl (.cons rfl (.cons rfl (.cons rfl .nil)))))
 refine Ends.seq (Ends.seq (Ends.region ?_))
 refine S.val hA (R.move rfl) rfl ?_; clear hA a; intro a hA
 refine S.val hA (R.neq rfl rfl) rfl ?_; clear hA a; intro a hA
 refine S.done ?_
 refine Ends.ite hA rfl (fun hc3 => ?_) (fun hc3 => ?_)
 ·
  have hz0 : ¬ (costI i x).2 = 0 := hc3
  refine Ends.seq (Ends.region ?_)
  refine S.val hA (R.move rfl) rfl ?_; clear hA a; intro a hA
  refine S.val hA (R.assign rfl) rfl ?_; clear hA a; intro a hA
  refine S.val hA (R.assign rfl) rfl ?_; clear hA a; intro a hA
  refine S.done ?_
  replace hA : St 37 [(1, _), (2, _), (4, _), (5, _), (6, _)] a := hA.sub ((.cons rfl (.cons rfl (.cons rfl (.cons rfl (.cons rfl .nil))))))
  refine Ends.ret2 Try.func29 Try.results29 hA rfl rfl ?_
  rw [betI_no hz0]
  exact ⟨none, 0, rfl, IntSl.nil _, (fun p hp => by cases hp), Mem.trans0 hbs hM.nilL⟩
 ·
  have hz0 : (costI i x).2 = 0 := Decidable.not_not.1 hc3
  have hz := costI_chk hz0
  have hF := chk_inF hz
  have hlx9 := cost_len hz0
  have f1 := hF.n1
  have f3 := hF.n64
  refine Ends.skip (Ends.seq ?_)
  refine Ends.drawn (Mem w nof [pt b1 #[.int .i64 i.kind, .int .i64 i.n, .int .i64 i.cap, .slice ax3 i.wt.length cx3, .slice ax4 i.vl.length cx4, .slice ax5 i.cost.length cx5] 25]) (.cons (0, true) (.cons (1, true) (.cons (3, true) (.cons (2, false) (.cons (4, true) (.cons (5, false) (.cons (6, true) .nil))))))) 7 mixed (by kernel_rfl) (by kernel_rfl) (by kernel_rfl) hM.drew ?_
  replace hM := hM.drew
  refine D.val hA rfl (by kernel_rfl) (fun _ hM => R.loadA sz25 rfl (hM.range (k := 0) rfl) rfl) rfl ?_; clear hA a; intro a hA
  refine D.valF hA rfl (fun _ => R.move rfl) rfl ?_; clear hA a; intro a hA
  refine D.valF hA rfl (fun _ => R.move rfl) rfl ?_; clear hA a; intro a hA
  refine D.call hA rfl (R.callF Try.func49 rfl rfl rfl) rfl (clone09 ay x cy (by omega) _ (hy.mem hM)) ?_; clear hA a
  rintro e w3 ⟨ga, gc, rfl, hn⟩
  replace hM : Mem _ _ [own 3 1 (.slice ga x.length gc) x.length (x.map (Value.int .i64)), pt b1 #[.int .i64 i.kind, .int .i64 i.n, .int .i64 i.cap, .slice ax3 i.wt.length cx3, .slice ax4 i.vl.length cx4, .slice ax5 i.cost.length cx5] 25] _ := hM.call hn; clear hn
  refine ⟨.slice ga x.length gc, rfl, (hM.drop 0), fun a hA => ?_⟩
  refine D.valF hA rfl (fun _ => R.build (cells := #[.int .i64 i.kind, .int .i64 i.n, .int .i64 i.cap, .slice ax3 i.wt.length cx3, .slice ax4 i.vl.length cx4, .slice ax5 i.cost.length cx5, .slice ga x.length gc, .int .i64 ((costI i x).1)]) rfl (by kernel_rfl)) rfl ?_; clear hA a; intro a hA
  refine D.box hA hM rfl rfl rfl ?_; clear hA hM a; intro b4 w4 hb5 hM; refine ⟨(fun hM => (hM.drop 0)) hM.tail, fun a hA => ?_⟩
  replace hM : Mem _ _ [pt b4 #[.int .i64 i.kind, .int .i64 i.n, .int .i64 i.cap, .slice ax3 i.wt.length cx3, .slice ax4 i.vl.length cx4, .slice ax5 i.cost.length cx5, .slice ga x.length gc, .int .i64 ((costI i x).1)] 55, own 3 1 (.slice ga x.length gc) x.length (x.map (Value.int .i64)), pt b1 #[.int .i64 i.kind, .int .i64 i.n, .int .i64 i.cap, .slice ax3 i.wt.length cx3, .slice ax4 i.vl.length cx4, .slice ax5 i.cost.length cx5] 25] _ := hM
  refine D.valF hA rfl (fun _ => R.assign rfl) rfl ?_; clear hA a; intro a hA
  refine D.done ?_
  replace hM := hM.front (k := 1) rfl
  replace hM := hM.ownRd
  replace hM : Mem _ _ [rd ga gc x, pt b4 #[.int .i64 i.kind, .int .i64 i.n, .int .i64 i.cap, .slice ax3 i.wt.length cx3, .slice ax4 i.vl.length cx4, .slice ax5 i.cost.length cx5, .slice ga x.length gc, .int .i64 ((costI i x).1)] 55, pt b1 #[.int .i64 i.kind, .int .i64 i.n, .int .i64 i.cap, .slice ax3 i.wt.length cx3, .slice ax4 i.vl.length cx4, .slice ax5 i.cost.length cx5] 25] _ := hM
  replace hM := hM.front (k := 1) rfl
  replace hM := hM.firstN 2
  replace hM : Mem _ _ [pt b4 #[.int .i64 i.kind, .int .i64 i.n, .int .i64 i.cap, .slice ax3 i.wt.length cx3, .slice ax4 i.vl.length cx4, .slice ax5 i.cost.length cx5, .slice ga x.length gc, .int .i64 ((costI i x).1)] 55, rd ga gc x] _ := hM
  obtain ⟨sb, hsb⟩ : ∃ sb, sb = b4 := ⟨_, rfl⟩
  rw [← hsb] at hM hA
  replace hM : Mem _ _ [pt sb #[.int .i64 i.kind, .int .i64 i.n, .int .i64 i.cap, .slice ax3 i.wt.length cx3, .slice ax4 i.vl.length cx4, .slice ax5 i.cost.length cx5, .slice ga x.length gc, .int .i64 ((costI i x).1)] 55, rd ga gc x] _ := hM
  replace hA : St 37 [(8, _)] a := hA.sub ((.cons rfl .nil))
  refine Ends.seq (Ends.seq (Ends.region ?_))
  refine S.val hA (R.assign rfl) rfl ?_; clear hA a; intro a hA
  refine S.done ?_
  refine Ends.block ?_
  refine Ends.loop (σ := Nat × BS3 × Option Addr × Nat) (fun (r, S0, xa1, xc1) (a : Act) (wv : World) => St 37 [(8, .pointer (some ⟨sb, 0, none⟩)), (9, .int .i64 ((r : Int)))] a ∧ Mem w nof [pt sb #[.int .i64 i.kind, .int .i64 i.n, .int .i64 i.cap, .slice ax3 i.wt.length cx3, .slice ax4 i.vl.length cx4, .slice ax5 i.cost.length cx5, .slice xa1 S0.1.length xc1, .int .i64 S0.2.1] 55, rd xa1 xc1 S0.1] wv ∧ (r ≤ 50) ∧ (S0 = rndsB (costI i) i (x, (costI i x).1, true) r) ∧ (S0.1.length = i.n.toNat) ∧ (S0.2.2 = true)) (fun (r, S0, xa1, xc1) => 50 - r) ((0, (x, (costI i x).1, true), ga, gc)) ⟨hA.sub ((.cons rfl (.cons rfl .nil))), hM, (by omega), rfl, hlx9, rfl⟩ ?_
  clear hA hM a
  rintro ⟨r, S0, xa1, xc1⟩ a w5 ⟨hA, hM, hr, hS, hl1, hfl9⟩ hNext
  refine Ends.seq (Ends.seq ?_)
  by_cases hs6 : r < 50
  ·
   refine Ends.region ?_
   refine S.val hA (R.move rfl) rfl ?_; clear hA a; intro a hA
   refine S.val hA (R.tt (R.lss rfl rfl) (by omega)) rfl ?_; clear hA a; intro a hA
   refine S.val hA (R.move rfl) rfl ?_; clear hA a; intro a hA
   refine S.valg (dj := 27) hA (by kernel_rfl) rfl (R.move rfl) rfl ?_; clear hA a; intro a hA
   refine S.callg (dj := 27) hA (by kernel_rfl) rfl (R.callF Try.func50 rfl rfl rfl) rfl (round10 i ax3 cx3 ax4 cx4 ax5 cx5 sb xa1 xc1 S0.1 S0.2.1 hsm hF hl1 w _ hx3 hx4 hx5 hM) ?_; clear hA a
   rintro e w6 ⟨ya3, yc3, rfl, hn⟩
   replace hM : Mem _ _ [pt sb #[.int .i64 i.kind, .int .i64 i.n, .int .i64 i.cap, .slice ax3 i.wt.length cx3, .slice ax4 i.vl.length cx4, .slice ax5 i.cost.length cx5, .slice ya3 (((rdB i S0.1 S0.2.1).1).length) yc3, .int .i64 ((rdB i S0.1 S0.2.1).2.1)] 55, rd ya3 yc3 ((rdB i S0.1 S0.2.1).1)] _ := hn; clear hn
   refine ⟨.bool ((rdB i S0.1 S0.2.1).2.2), rfl, fun a hA => ?_⟩
   refine S.val hA (R.pickT rfl rfl) rfl ?_; clear hA a; intro a hA
   refine S.done ?_
   replace hA : St 37 [(8, _), (9, _), (30, _)] a := hA.sub ((.cons rfl (.cons rfl (.cons rfl .nil))))
   refine Ends.iteB hA rfl (fun hc7 => ?_) (fun hc7 => ?_)
   ·
    have hl4 : (rdB i S0.1 S0.2.1).1.length = i.n.toNat := by rw [rdB_eq, hS]; exact rdlen10 hlx9 r
    refine Ends.skip (Ends.seq (Ends.block (Ends.skip (Ends.inBlock (Ends.region ?_)))))
    refine S.val hA (R.move rfl) rfl ?_; clear hA a; intro a hA
    refine S.val hA (R.addI rfl rfl (r := ((r : Int)) + 1) rfl (by omega)) rfl ?_; clear hA a; intro a hA
    refine S.val hA (R.assign rfl) rfl ?_; clear hA a; intro a hA
    refine S.done ?_
    exact hNext ((r + 1, (rdB i S0.1 S0.2.1), ya3, yc3)) _ _ ((by show 50 - (r + 1) < 50 - r; omega)) ⟨hA.sub ((.cons rfl (.cons rfl .nil))), hM, (by omega), (by rw [rnds_go (by rw [← hS]; exact hfl9), ← hS]; exact rdB_eq i S0), hl4, hc7⟩
   ·
    refine Ends.exit rfl ?_
    refine Ends.seq (Ends.region ?_)
    refine S.val hA (R.move rfl) rfl ?_; clear hA a; intro a hA
    refine S.val hA (R.nilCheck rfl) rfl ?_; clear hA a; intro a hA
    refine S.val hA (R.fieldAddr (q := 6) fi55_1 rfl rfl rfl) rfl ?_; clear hA a; intro a hA
    refine S.val hA (R.load sz22 rfl (hM.cell (k := 0) rfl rfl)) rfl ?_; clear hA a; intro a hA
    refine S.val hA (R.assign rfl) rfl ?_; clear hA a; intro a hA
    refine S.val hA (R.assign rfl) rfl ?_; clear hA a; intro a hA
    refine S.done ?_
    replace hA : St 37 [(4, _), (5, _)] a := hA.sub ((.cons rfl (.cons rfl .nil)))
    refine Ends.ret2 Try.func29 Try.results29 hA rfl rfl ?_
    have hnx : (rdB i S0.1 S0.2.1) = rndsB (costI i) i (x, (costI i x).1, true) (r + 1) := by rw [rnds_go (by rw [← hS]; exact hfl9), ← hS]; exact rdB_eq i S0
    have hfin : (rdB i S0.1 S0.2.1).1 = betI i x := by rw [betI_yes hz0]; rw [hnx, rnds_all (.inr (by rw [← hnx, hc7]; decide)) (by omega)]; rfl
    have hr9 := hM.rd (k := 1) rfl
    have hf9 := hM.rdFresh (k := 1) rfl (fun e9 => by rw [hfin] at e9; have h8 := betI_len hz0; rw [e9] at h8; simp at h8; omega)
    rw [hfin] at hr9 ⊢
    rw [hz0]
    exact ⟨_, _, rfl, hr9, hf9, Mem.trans0 hbs hM.nilL⟩
  ·
   refine Ends.region ?_
   refine S.val hA (R.move rfl) rfl ?_; clear hA a; intro a hA
   refine S.val hA (R.ff (R.lss rfl rfl) (by omega)) rfl ?_; clear hA a; intro a hA
   refine S.val hA (R.move rfl) rfl ?_; clear hA a; intro a hA
   refine S.no (dj := 27) hA (by kernel_rfl) rfl rfl rfl ?_; clear hA a; intro a hA
   refine S.no (dj := 27) hA (by kernel_rfl) rfl rfl rfl ?_; clear hA a; intro a hA
   refine S.val hA (R.pickF rfl rfl) rfl ?_; clear hA a; intro a hA
   refine S.done ?_
   replace hA : St 37 [(8, _), (9, _), (30, _)] a := hA.sub ((.cons rfl (.cons rfl (.cons rfl .nil))))
   refine Ends.condF hA rfl ?_
   refine Ends.exit rfl ?_
   refine Ends.seq (Ends.region ?_)
   refine S.val hA (R.move rfl) rfl ?_; clear hA a; intro a hA
   refine S.val hA (R.nilCheck rfl) rfl ?_; clear hA a; intro a hA
   refine S.val hA (R.fieldAddr (q := 6) fi55_1 rfl rfl rfl) rfl ?_; clear hA a; intro a hA
   refine S.val hA (R.load sz22 rfl (hM.cell (k := 0) rfl rfl)) rfl ?_; clear hA a; intro a hA
   refine S.val hA (R.assign rfl) rfl ?_; clear hA a; intro a hA
   refine S.val hA (R.assign rfl) rfl ?_; clear hA a; intro a hA
   refine S.done ?_
   replace hA : St 37 [(4, _), (5, _)] a := hA.sub ((.cons rfl (.cons rfl .nil)))
   refine Ends.ret2 Try.func29 Try.results29 hA rfl rfl ?_
   have hfin : S0.1 = betI i x := by rw [betI_yes hz0, hS, rnds_all (.inl (by omega)) hr]; rfl
   have hr9 := hM.rd (k := 1) rfl
   have hf9 := hM.rdFresh (k := 1) rfl (fun e9 => by rw [hfin] at e9; have h8 := betI_len hz0; rw [e9] at h8; simp at h8; omega)
   rw [hfin] at hr9 ⊢
   rw [hz0]
   exact ⟨_, _, rfl, hr9, hf9, Mem.trans0 hbs hM.nilL⟩
theorem better10 (i : Ins) (ax3 : Option Addr) (cx3 : Nat) (ax4 : Option Addr) (cx4 : Nat) (ax5 : Option Addr) (cx5 : Nat) (ay : Option Addr) (x : List Int) (cy : Nat) (hsm : i.wt.length ≤ 1000000 ∧ i.vl.length ≤ 1000000) (w : World) (hx3 : IntSl w (.slice ax3 i.wt.length cx3) i.wt) (hx4 : IntSl w (.slice ax4 i.vl.length cx4) i.vl) (hx5 : RowsV w (.slice ax5 i.cost.length cx5) i.cost) (hy : IntSl w (.slice ay x.length cy) x) : Calls Try.prog 29 #[.agg #[.int .i64 i.kind, .int .i64 i.n, .int .i64 i.cap, .slice ax3 i.wt.length cx3, .slice ax4 i.vl.length cx4, .slice ax5 i.cost.length cx5], .slice ay x.length cy] w (fun e w' => ∃ a c, e = .returned (.tuple #[.slice a ((betI i x)).length c, .int .i64 ((costI i x).2)]) ∧ IntSl w' (.slice a ((betI i x)).length c) ((betI i x)) ∧ Below w.heap.size w w') :=
  (better10F i ax3 cx3 ax4 cx4 ax5 cx5 ay x cy hsm w hx3 hx4 hx5 hy).mono fun e w' ⟨g, c, h1, h2, _, h3⟩ => ⟨g, c, h1, h2, h3⟩
set_option maxRecDepth 100000 in
set_option maxHeartbeats 400000 in
theorem rchanged10 (i : Ins) (ax3 : Option Addr) (cx3 : Nat) (ax4 : Option Addr) (cx4 : Nat) (ax5 : Option Addr) (cx5 : Nat) (ay : Option Addr) (X : List Int) (cy : Nat) (p q : Nat) (hXl : X.length ≤ 64) (hpq : p < q) (hqn : q < X.length) (w : World) (hx3 : IntSl w (.slice ax3 i.wt.length cx3) i.wt) (hx4 : IntSl w (.slice ax4 i.vl.length cx4) i.vl) (hx5 : RowsV w (.slice ax5 i.cost.length cx5) i.cost) (hy : IntSl w (.slice ay X.length cy) X) :
  Calls Try.prog 51 #[.agg #[.int .i64 i.kind, .int .i64 i.n, .int .i64 i.cap, .slice ax3 i.wt.length cx3, .slice ax4 i.vl.length cx4, .slice ax5 i.cost.length cx5], .slice ay X.length cy, .int .i64 ((p : Int)), .int .i64 ((q : Int))] w fun e w' => ∃ a c, e = .returned (.slice a ((chg i X p q)).length c) ∧ IntSl w' (.slice a ((chg i X p q)).length c) ((chg i X p q)) ∧ frs w.heap.size a ∧ Below w.heap.size w w' := by
 have hbs := Below.refl (B := w.heap.size) w
 have hM := Mem.start w
 refine Calls.of_ends (vs := [.agg #[.int .i64 i.kind, .int .i64 i.n, .int .i64 i.cap, .slice ax3 i.wt.length cx3, .slice ax4 i.vl.length cx4, .slice ax5 i.cost.length cx5], .slice ay X.length cy, .int .i64 ((p : Int)), .int .i64 ((q : Int))]) Try.func51 rfl Try.ntmps51 rfl ?_
 intro a hA
 replace hA : St 50 [(0, _), (1, _), (2, _), (3, _)] a := hA
 refine Ends.seq (Ends.region ?_)
 refine S.box hA hM rfl rfl ?_; clear hA hM a; intro b1 w1 hb2 hM a hA
 replace hM : Mem _ _ [pt b1 #[.int .i64 i.kind, .int .i64 i.n, .int .i64 i.cap, .slice ax3 i.wt.length cx3, .slice ax4 i.vl.length cx4, .slice ax5 i.cost.length cx5] 25] _ := hM
 refine S.val hA (R.assign rfl) rfl ?_; clear hA a; intro a hA
 refine S.done ?_
 refine Ends.seq (Ends.region ?_)
 refine S.buildSl0 hA hM Try.underlying22 info3 rfl ?_; clear hA hM a; intro b3 w2 hb4 hM a hA
 replace hM := hM.ownPt (cap := 0) (n := 0) (sz := 1) (xs := []) rfl (Nat.zero_le _) (Nat.le_refl _) rfl
 replace hM : Mem _ _ [own 3 1 (.slice ((some ⟨b3, 0, none⟩)) 0 0) 0 ((([] : List Int)).map (Value.int .i64)), pt b1 #[.int .i64 i.kind, .int .i64 i.n, .int .i64 i.cap, .slice ax3 i.wt.length cx3, .slice ax4 i.vl.length cx4, .slice ax5 i.cost.length cx5] 25] _ := hM
 refine S.val hA (R.move rfl) rfl ?_; clear hA a; intro a hA
 refine S.appendI (k := 0) hA hM rfl (hy.mem hM) Try.underlying22 info3 rfl rfl rfl rfl rfl rfl (by first | decide | (unfold maxLen; omega) | (show (0 + _) * 8 ≤ (140737488355328 : Nat); omega) | omega) (by first | decide | (unfold maxLen; omega) | (show (0 + _) * 8 ≤ (140737488355328 : Nat); omega) | omega) rfl ?_; clear hA hM a; intro a5 c6 w3 hM a hA
 have hl7 : 0 + X.length = X.length := by first | (simp; done) | simp only [List.length_append]
 rw [hl7, show (([] : List Int)).map (Value.int .i64) ++ X.map (Value.int .i64) = X.map (Value.int .i64) by simp] at hM; rw [hl7] at hA; clear hl7
 replace hM : Mem _ _ [own 3 1 (.slice a5 X.length c6) X.length (X.map (Value.int .i64)), pt b1 #[.int .i64 i.kind, .int .i64 i.n, .int .i64 i.cap, .slice ax3 i.wt.length cx3, .slice ax4 i.vl.length cx4, .slice ax5 i.cost.length cx5] 25] _ := hM
 refine S.val hA (R.assign rfl) rfl ?_; clear hA a; intro a hA
 refine S.done ?_
 obtain ⟨g, hgg⟩ := hM.ownAt (k := 0) rfl (by omega)
 have hcl := (hM.ownLe (k := 0) rfl).1
 subst hgg
 replace hA : St 50 [(1, _), (2, _), (3, _), (4, _), (9, _)] a := hA.sub ((.cons rfl (.cons rfl (.cons rfl (.cons rfl (.cons rfl .nil))))))
 refine Ends.seq (Ends.seq (Ends.region ?_))
 refine S.val hA (R.fieldAddr (q := 0) fi25_0 rfl rfl rfl) rfl ?_; clear hA a; intro a hA
 refine S.val hA (R.load sz3 rfl (hM.cell (k := 1) rfl rfl)) rfl ?_; clear hA a; intro a hA
 refine S.val hA (R.neq rfl rfl) rfl ?_; clear hA a; intro a hA
 refine S.done ?_
 refine Ends.ite hA rfl (fun hc8 => ?_) (fun hc8 => ?_)
 ·
  have hk3 : ¬ i.kind = 3 := hc8
  refine Ends.seq ?_
  refine Ends.drawn (Mem w nof [own 3 1 (.slice ((some ⟨g, 0, none⟩)) X.length c6) X.length (X.map (Value.int .i64)), pt b1 #[.int .i64 i.kind, .int .i64 i.n, .int .i64 i.cap, .slice ax3 i.wt.length cx3, .slice ax4 i.vl.length cx4, .slice ax5 i.cost.length cx5] 25]) (.cons (0, true) (.cons (1, true) (.cons (2, true) (.cons (3, true) (.cons (4, true) (.cons (5, true) (.cons (6, true) (.cons (7, true) (.cons (8, true) (.cons (9, true) (.cons (10, true) (.cons (11, true) (.cons (12, true) (.cons (13, false) (.cons (14, true) (.cons (15, false) .nil)))))))))))))))) 13 mixed (by kernel_rfl) (by kernel_rfl) (by kernel_rfl) hM.drew ?_
  replace hM := hM.drew
  refine D.valF hA rfl (fun _ => R.move rfl) rfl ?_; clear hA a; intro a hA
  refine D.valF hA rfl (fun _ => R.move rfl) rfl ?_; clear hA a; intro a hA
  refine D.valF hA rfl (fun _ => R.move rfl) rfl ?_; clear hA a; intro a hA
  refine D.valF hA rfl (fun _ => R.move rfl) rfl ?_; clear hA a; intro a hA
  refine D.valF hA rfl (fun _ => R.move rfl) rfl ?_; clear hA a; intro a hA
  refine D.valF hA rfl (fun _ => R.move rfl) rfl ?_; clear hA a; intro a hA
  refine D.valF hA rfl (fun _ => R.idxI hy (j := q) sl22 rfl rfl (by omega) (by omega)) rfl ?_; clear hA a; intro a hA
  refine D.val hA rfl (by kernel_rfl) (fun _ hM => R.loadI (hy.mem hM) sz3 rfl (by omega)) rfl ?_; clear hA a; intro a hA
  refine D.valF hA rfl (fun _ => R.move rfl) rfl ?_; clear hA a; intro a hA
  refine D.valF hA rfl (fun _ => R.move rfl) rfl ?_; clear hA a; intro a hA
  refine D.valF hA rfl (fun _ => R.idxI hy (j := p) sl22 rfl rfl (by omega) (by omega)) rfl ?_; clear hA a; intro a hA
  refine D.val hA rfl (by kernel_rfl) (fun _ hM => R.loadI (hy.mem hM) sz3 rfl (by omega)) rfl ?_; clear hA a; intro a hA
  refine D.valF hA rfl (fun _ => R.indexAddr (q := p) sl22 rfl rfl (by omega) (by omega)) rfl ?_; clear hA a; intro a hA
  refine D.storeO (k := 0) hA hM rfl sz3 rfl rfl rfl rfl (mapi_get X p (by first | omega | (simp only [List.length_set]; omega) | (simp; done))) ?_; clear hM; intro w4 hM; rw [mapi_set] at hM
  refine ⟨fun _ hne => absurd rfl hne, ?_⟩
  replace hM : Mem _ _ [own 3 1 (.slice ((some ⟨g, 0, none⟩)) X.length c6) X.length (((X.set p (X.getD q 0))).map (Value.int .i64)), pt b1 #[.int .i64 i.kind, .int .i64 i.n, .int .i64 i.cap, .slice ax3 i.wt.length cx3, .slice ax4 i.vl.length cx4, .slice ax5 i.cost.length cx5] 25] _ := hM
  refine D.valF hA rfl (fun _ => R.indexAddr (q := q) sl22 rfl rfl (by omega) (by omega)) rfl ?_; clear hA a; intro a hA
  refine D.storeO (k := 0) hA hM rfl sz3 rfl rfl rfl rfl (mapi_get ((X.set p (X.getD q 0))) q (by first | omega | (simp only [List.length_set]; omega) | (simp; done))) ?_; clear hM; intro w5 hM; rw [mapi_set] at hM
  refine ⟨fun hb0 => absurd hb0 (by decide), ?_⟩
  replace hM : Mem _ _ [own 3 1 (.slice ((some ⟨g, 0, none⟩)) X.length c6) X.length ((((X.set p (X.getD q 0)).set q (X.getD p 0))).map (Value.int .i64)), pt b1 #[.int .i64 i.kind, .int .i64 i.n, .int .i64 i.cap, .slice ax3 i.wt.length cx3, .slice ax4 i.vl.length cx4, .slice ax5 i.cost.length cx5] 25] _ := hM
  refine D.done ?_
  replace hA : St 50 [(1, _), (2, _), (3, _), (9, _)] a := hA.sub ((.cons rfl (.cons rfl (.cons rfl (.cons rfl .nil)))))
  refine Ends.seq ?_
  have hY : ((X.set p (X.getD q 0)).set q (X.getD p 0)) = chg i X p q := by unfold chg; rw [if_neg hk3]
  have hYl := chg_len i X p q
  obtain ⟨Y, hYd⟩ : ∃ Y, Y = chg i X p q := ⟨_, rfl⟩
  rw [← hYd] at hY hYl
  replace hM := Mem.eqL (L2 := [own 3 1 (.slice ((some ⟨g, 0, none⟩)) Y.length c6) Y.length (Y.map (Value.int .i64)), pt b1 #[.int .i64 i.kind, .int .i64 i.n, .int .i64 i.cap, .slice ax3 i.wt.length cx3, .slice ax4 i.vl.length cx4, .slice ax5 i.cost.length cx5] 25]) hM (by rw [hYl, hY])
  refine Ends.region ?_
  refine S.val hA (R.move rfl) rfl ?_; clear hA a; intro a hA
  refine S.val hA (R.assign rfl) rfl ?_; clear hA a; intro a hA
  refine S.done ?_
  refine Ends.ret1 Try.func51 Try.results51 hA rfl ?_
  have hr9 := hM.rsl (k := 0) rfl
  have hf9 := hM.ownFresh (k := 0) rfl
  rw [← hYd]
  exact ⟨_, _, by rw [hYl], hr9, hf9, Mem.trans0 hbs hM.nilL⟩
 ·
  have hk3 : i.kind = 3 := Decidable.not_not.1 hc8
  refine Ends.skip (Ends.seq (Ends.seq (Ends.region ?_)))
  refine S.val hA (R.move rfl) rfl ?_; clear hA a; intro a hA
  refine S.val hA (R.to (v := .int .i64 (((p + 0 : Nat) : Int))) (R.assign rfl) (congrArg (Value.int .i64) (by omega))) rfl ?_; clear hA a; intro a hA
  refine S.done ?_
  replace hA : St 50 [(1, _), (2, _), (3, _), (9, _), (10, _)] a := hA.sub ((.cons rfl (.cons rfl (.cons rfl (.cons rfl (.cons rfl .nil))))))
  refine Ends.block ?_
  replace hM := hM.front (k := 1) rfl
  replace hM := hM.front (k := 1) rfl
  have hzz9 := rvP_zero X p q
  refine Ends.loop (σ := Nat × List Int) (fun (j, Z) (a : Act) (wv : World) => St 50 [(1, .slice ay X.length cy), (2, .int .i64 ((p : Int))), (3, .int .i64 ((q : Int))), (9, .slice ((some ⟨g, 0, none⟩)) X.length c6), (10, .int .i64 (((p + j : Nat) : Int)))] a ∧ Mem w nof [own 3 1 (.slice ((some ⟨g, 0, none⟩)) X.length c6) X.length (Z.map (Value.int .i64)), pt b1 #[.int .i64 i.kind, .int .i64 i.n, .int .i64 i.cap, .slice ax3 i.wt.length cx3, .slice ax4 i.vl.length cx4, .slice ax5 i.cost.length cx5] 25] wv ∧ (p + j ≤ q + 1) ∧ (Z = rvP X p q j)) (fun (j, Z) => q + 1 - (p + j)) ((0, X)) ⟨hA.sub ((.cons rfl (.cons rfl (.cons rfl (.cons rfl (.cons rfl .nil)))))), hM, (by omega), (rvP_zero X p q).symm⟩ ?_
  clear hA hM a
  rintro ⟨j, Z⟩ a w6 ⟨hA, hM, hj, hZ⟩ hNext
  refine Ends.seq (Ends.seq (Ends.region ?_))
  refine S.val hA (R.move rfl) rfl ?_; clear hA a; intro a hA
  refine S.val hA (R.move rfl) rfl ?_; clear hA a; intro a hA
  refine S.val hA (R.leq rfl rfl) rfl ?_; clear hA a; intro a hA
  refine S.done ?_
  refine Ends.ite hA rfl (fun hc9 => ?_) (fun hc9 => ?_)
  ·
   have hzl : Z.length = X.length := by rw [hZ, rvP_len]
   refine Ends.skip (Ends.seq (Ends.block (Ends.region ?_)))
   refine S.val hA (R.move rfl) rfl ?_; clear hA a; intro a hA
   refine S.val hA (R.move rfl) rfl ?_; clear hA a; intro a hA
   refine S.val hA (R.move rfl) rfl ?_; clear hA a; intro a hA
   refine S.val hA (R.move rfl) rfl ?_; clear hA a; intro a hA
   refine S.val hA (R.move rfl) rfl ?_; clear hA a; intro a hA
   refine S.val hA (R.addI rfl rfl (r := ((p + q : Nat) : Int)) (by omega) (by omega)) rfl ?_; clear hA a; intro a hA
   refine S.val hA (R.move rfl) rfl ?_; clear hA a; intro a hA
   refine S.val hA (R.subI rfl rfl (r := ((p + q - (p + j) : Nat) : Int)) (by omega) (by omega)) rfl ?_; clear hA a; intro a hA
   refine S.val hA (R.idxI hy (j := (p + q - (p + j))) sl22 rfl rfl (by omega) (by omega)) rfl ?_; clear hA a; intro a hA
   refine S.val hA (R.loadI (hy.mem hM) sz3 rfl (by omega)) rfl ?_; clear hA a; intro a hA
   refine S.val hA (R.indexAddr (q := (p + j)) sl22 rfl rfl (by omega) (by omega)) rfl ?_; clear hA a; intro a hA
   refine S.storeO (k := 0) hA hM sz3 rfl rfl rfl rfl (mapi_get Z ((p + j)) (by first | omega | (simp only [List.length_set]; omega) | (simp; done))) ?_; clear hM; intro w7 hM; rw [mapi_set] at hM
   replace hM : Mem _ _ [own 3 1 (.slice ((some ⟨g, 0, none⟩)) X.length c6) X.length (((Z.set ((p + j)) (X.getD ((p + q - (p + j))) 0))).map (Value.int .i64)), pt b1 #[.int .i64 i.kind, .int .i64 i.n, .int .i64 i.cap, .slice ax3 i.wt.length cx3, .slice ax4 i.vl.length cx4, .slice ax5 i.cost.length cx5] 25] _ := hM
   refine S.done ?_
   replace hA : St 50 [(1, _), (2, _), (3, _), (9, _), (10, _)] a := hA.sub ((.cons rfl (.cons rfl (.cons rfl (.cons rfl (.cons rfl .nil))))))
   refine Ends.inBlock (Ends.region ?_)
   refine S.val hA (R.move rfl) rfl ?_; clear hA a; intro a hA
   refine S.val hA (R.addI rfl rfl (r := ((p + (j + 1) : Nat) : Int)) (by omega) (by omega)) rfl ?_; clear hA a; intro a hA
   refine S.val hA (R.assign rfl) rfl ?_; clear hA a; intro a hA
   refine S.done ?_
   exact hNext ((j + 1, (Z.set ((p + j)) (X.getD ((p + q - (p + j))) 0)))) _ _ ((by show q + 1 - (p + (j + 1)) < q + 1 - (p + j); omega)) ⟨hA.sub ((.cons rfl (.cons rfl (.cons rfl (.cons rfl (.cons rfl .nil)))))), hM, (by omega), (by rw [hZ]; exact rvP_step (by omega))⟩
  ·
   have hje : q < p + j := by omega
   have hzl : Z.length = X.length := by rw [hZ, rvP_len]
   refine Ends.exit rfl ?_
   replace hA : St 50 [(9, _)] a := hA.sub ((.cons rfl .nil))
   refine Ends.seq ?_
   have hY : Z = chg i X p q := by rw [hZ, rvP_all hje]; unfold chg; rw [if_pos hk3]
   have hYl := chg_len i X p q
   obtain ⟨Y, hYd⟩ : ∃ Y, Y = chg i X p q := ⟨_, rfl⟩
   rw [← hYd] at hY hYl
   replace hM := Mem.eqL (L2 := [own 3 1 (.slice ((some ⟨g, 0, none⟩)) Y.length c6) Y.length (Y.map (Value.int .i64)), pt b1 #[.int .i64 i.kind, .int .i64 i.n, .int .i64 i.cap, .slice ax3 i.wt.length cx3, .slice ax4 i.vl.length cx4, .slice ax5 i.cost.length cx5] 25]) hM (by rw [hYl, hY])
   refine Ends.region ?_
   refine S.val hA (R.move rfl) rfl ?_; clear hA a; intro a hA
   refine S.val hA (R.assign rfl) rfl ?_; clear hA a; intro a hA
   refine S.done ?_
   refine Ends.ret1 Try.func51 Try.results51 hA rfl ?_
   have hr9 := hM.rsl (k := 0) rfl
   have hf9 := hM.ownFresh (k := 0) rfl
   rw [← hYd]
   exact ⟨_, _, by rw [hYl], hr9, hf9, Mem.trans0 hbs hM.nilL⟩
set_option maxRecDepth 100000 in
set_option maxHeartbeats 400000 in
theorem rbetter10 (i : Ins) (ax3 : Option Addr) (cx3 : Nat) (ax4 : Option Addr) (cx4 : Nat) (ax5 : Option Addr) (cx5 : Nat) (ay : Option Addr) (x : List Int) (cy : Nat) (w : World) (hx3 : IntSl w (.slice ax3 i.wt.length cx3) i.wt) (hx4 : IntSl w (.slice ax4 i.vl.length cx4) i.vl) (hx5 : RowsV w (.slice ax5 i.cost.length cx5) i.cost) (hy : IntSl w (.slice ay x.length cy) x) :
  Calls Try.prog 30 #[.agg #[.int .i64 i.kind, .int .i64 i.n, .int .i64 i.cap, .slice ax3 i.wt.length cx3, .slice ax4 i.vl.length cx4, .slice ax5 i.cost.length cx5], .slice ay x.length cy] w fun e w' => ∃ a c, e = .returned (.tuple #[.slice a ((betI i x)).length c, .int .i64 ((costI i x).2)]) ∧ IntSl w' (.slice a ((betI i x)).length c) ((betI i x)) ∧ Below w.heap.size w w' := by
 have hbs := Below.refl (B := w.heap.size) w
 have hM := Mem.start w
 refine Calls.of_ends (vs := [.agg #[.int .i64 i.kind, .int .i64 i.n, .int .i64 i.cap, .slice ax3 i.wt.length cx3, .slice ax4 i.vl.length cx4, .slice ax5 i.cost.length cx5], .slice ay x.length cy]) Try.func30 rfl Try.ntmps30 rfl ?_
 intro a hA
 replace hA : St 74 [(0, _), (1, _)] a := hA
 refine Ends.seq (Ends.region ?_)
 refine S.box hA hM rfl rfl ?_; clear hA hM a; intro b1 w1 hb2 hM a hA
 replace hM : Mem _ _ [pt b1 #[.int .i64 i.kind, .int .i64 i.n, .int .i64 i.cap, .slice ax3 i.wt.length cx3, .slice ax4 i.vl.length cx4, .slice ax5 i.cost.length cx5] 25] _ := hM
 refine S.val hA (R.assign rfl) rfl ?_; clear hA a; intro a hA
 refine S.val hA (R.assign rfl) rfl ?_; clear hA a; intro a hA
 refine S.done ?_
 refine Ends.seq (Ends.region ?_)
 refine S.val hA (R.loadA sz25 rfl (hM.range (k := 0) rfl) rfl) rfl ?_; clear hA a; intro a hA
 refine S.val hA (R.move rfl) rfl ?_; clear hA a; intro a hA
 refine S.call hA (R.callF Try.func20 rfl rfl rfl) rfl (rcost08 i ax3 cx3 ax4 cx4 ax5 cx5 ay x cy _ (hx3.mem hM) (hx4.mem hM) (hx5.mem hM) (hy.mem hM)) ?_; clear hA a
 rintro e w2 ⟨rfl, hb⟩
 replace hM := hM.callB hb; clear hb
 refine ⟨.tuple #[.int .i64 ((costI i x).1), .int .i64 ((costI i x).2)], rfl, fun a hA => ?_⟩
 refine S.val hA (R.move rfl) rfl ?_; clear hA a; intro a hA
 refine S.val hA (R.extract (v := .int .i64 ((costI i x).1)) rfl rfl) rfl ?_; clear hA a; intro a hA
 refine S.val hA (R.extract (v := .int .i64 ((costI i x).2)) rfl rfl) rfl ?_; clear hA a; intro a hA
 refine S.val hA (R.assign rfl) rfl ?_; clear hA a; intro a hA
 refine S.val hA (R.assign rfl) rfl ?_; clear hA a; intro a hA
 refine S.done ?_
 replace hA : St 74 [(1, _), (2, _), (6, _), (7, _)] a := hA.sub ((.cons rfl (.cons rfl (.cons rfl (.cons rfl .nil)))))
 refine Ends.seq (Ends.seq (Ends.region ?_))
 refine S.val hA (R.move rfl) rfl ?_; clear hA a; intro a hA
 refine S.val hA (R.neq rfl rfl) rfl ?_; clear hA a; intro a hA
 refine S.done ?_
 refine Ends.ite hA rfl (fun hc3 => ?_) (fun hc3 => ?_)
 ·
  have hz0 : ¬ (costI i x).2 = 0 := hc3
  refine Ends.seq (Ends.region ?_)
  refine S.val hA (R.move rfl) rfl ?_; clear hA a; intro a hA
  refine S.val hA (R.assign rfl) rfl ?_; clear hA a; intro a hA
  refine S.val hA (R.assign rfl) rfl ?_; clear hA a; intro a hA
  refine S.done ?_
  replace hA : St 74 [(1, _), (2, _), (4, _), (5, _), (6, _)] a := hA.sub ((.cons rfl (.cons rfl (.cons rfl (.cons rfl (.cons rfl .nil))))))
  refine Ends.ret2 Try.func30 Try.results30 hA rfl rfl ?_
  rw [betI_no hz0]
  exact ⟨none, 0, rfl, IntSl.nil _, Mem.trans0 hbs hM.nilL⟩
 ·
  have hz0 : (costI i x).2 = 0 := Decidable.not_not.1 hc3
  have hz := costI_chk hz0
  have hF := chk_inF hz
  have hlx9 := cost_len hz0
  have f1 := hF.n1
  have f3 := hF.n64
  have hfl := frm_le i
  refine Ends.skip (Ends.seq (Ends.region ?_))
  refine S.buildSl0 hA hM Try.underlying22 info3 rfl ?_; clear hA hM a; intro b4 w3 hb5 hM a hA
  replace hM := hM.ownPt (cap := 0) (n := 0) (sz := 1) (xs := []) rfl (Nat.zero_le _) (Nat.le_refl _) rfl
  replace hM : Mem _ _ [own 3 1 (.slice ((some ⟨b4, 0, none⟩)) 0 0) 0 ((([] : List Int)).map (Value.int .i64)), pt b1 #[.int .i64 i.kind, .int .i64 i.n, .int .i64 i.cap, .slice ax3 i.wt.length cx3, .slice ax4 i.vl.length cx4, .slice ax5 i.cost.length cx5] 25] _ := hM
  refine S.val hA (R.move rfl) rfl ?_; clear hA a; intro a hA
  refine S.appendI (k := 0) hA hM rfl (hy.mem hM) Try.underlying22 info3 rfl rfl rfl rfl rfl rfl (by first | decide | (unfold maxLen; omega) | (show (0 + _) * 8 ≤ (140737488355328 : Nat); omega) | omega) (by first | decide | (unfold maxLen; omega) | (show (0 + _) * 8 ≤ (140737488355328 : Nat); omega) | omega) rfl ?_; clear hA hM a; intro a6 c7 w4 hM a hA
  have hl8 : 0 + x.length = x.length := by first | (simp; done) | simp only [List.length_append]
  rw [hl8, show (([] : List Int)).map (Value.int .i64) ++ x.map (Value.int .i64) = x.map (Value.int .i64) by simp] at hM; rw [hl8] at hA; clear hl8
  replace hM : Mem _ _ [own 3 1 (.slice a6 x.length c7) x.length (x.map (Value.int .i64)), pt b1 #[.int .i64 i.kind, .int .i64 i.n, .int .i64 i.cap, .slice ax3 i.wt.length cx3, .slice ax4 i.vl.length cx4, .slice ax5 i.cost.length cx5] 25] _ := hM
  refine S.val hA (R.assign rfl) rfl ?_; clear hA a; intro a hA
  refine S.done ?_
  replace hM := hM.ownRd
  replace hM : Mem _ _ [rd a6 c7 x, pt b1 #[.int .i64 i.kind, .int .i64 i.n, .int .i64 i.cap, .slice ax3 i.wt.length cx3, .slice ax4 i.vl.length cx4, .slice ax5 i.cost.length cx5] 25] _ := hM
  replace hM := hM.front (k := 1) rfl
  replace hM := hM.firstN 2
  replace hM : Mem _ _ [pt b1 #[.int .i64 i.kind, .int .i64 i.n, .int .i64 i.cap, .slice ax3 i.wt.length cx3, .slice ax4 i.vl.length cx4, .slice ax5 i.cost.length cx5] 25, rd a6 c7 x] _ := hM
  replace hA : St 74 [(1, _), (2, _), (6, _)] a := hA.sub ((.cons rfl (.cons rfl (.cons rfl .nil))))
  refine Ends.seq (Ends.region ?_)
  refine S.val hA (R.assign rfl) rfl ?_; clear hA a; intro a hA
  refine S.done ?_
  refine Ends.seq (Ends.seq (Ends.region ?_))
  refine S.val hA (R.fieldAddr (q := 0) fi25_0 rfl rfl rfl) rfl ?_; clear hA a; intro a hA
  refine S.val hA (R.load sz3 rfl (hM.cell (k := 0) rfl rfl)) rfl ?_; clear hA a; intro a hA
  refine S.val hA (R.eql rfl rfl) rfl ?_; clear hA a; intro a hA
  refine S.done ?_
  refine Ends.ite hA rfl (fun hc9 => ?_) (fun hc9 => ?_)
  ·
   have hk3 := hc9
   have hfr : frm i = 1 := if_pos hk3
   refine Ends.region ?_
   refine S.val hA (R.assign rfl) rfl ?_; clear hA a; intro a hA
   refine S.done ?_
   refine Ends.seq (Ends.region ?_)
   refine S.val hA (R.assign rfl) rfl ?_; clear hA a; intro a hA
   refine S.done ?_
   refine Ends.seq (Ends.seq (Ends.region ?_))
   refine S.val hA (R.assign rfl) rfl ?_; clear hA a; intro a hA
   refine S.done ?_
   refine Ends.block ?_
   refine Ends.loop (σ := Nat × BS3 × Option Addr × Nat) (fun (r, S0, xa0, xc0) (a : Act) (wv : World) => St 74 [(1, .slice xa0 S0.1.length xc0), (2, .pointer (some ⟨b1, 0, none⟩)), (6, .int .i64 S0.2.1), (8, .int .i64 1), (9, .bool S0.2.2), (10, .int .i64 ((r : Int)))] a ∧ Mem w nof [pt b1 #[.int .i64 i.kind, .int .i64 i.n, .int .i64 i.cap, .slice ax3 i.wt.length cx3, .slice ax4 i.vl.length cx4, .slice ax5 i.cost.length cx5] 25, rd xa0 xc0 S0.1] wv ∧ (r ≤ 50) ∧ (S0 = rndsB (costI i) i (x, (costI i x).1, true) r) ∧ (S0.1.length = i.n.toNat)) (fun (r, S0, xa0, xc0) => 50 - r) ((0, (x, (costI i x).1, true), a6, c7)) ⟨hA.sub ((.cons rfl (.cons rfl (.cons rfl (.cons rfl (.cons rfl (.cons rfl .nil))))))), hM, (by omega), rfl, hlx9⟩ ?_
   clear hA hM a
   rintro ⟨r, S0, xa0, xc0⟩ a w5 ⟨hA, hM, hr, hS, hl0⟩ hNext
   refine Ends.seq (Ends.seq ?_)
   refine Ends.cut (fun (a : Act) (wv : World) => St 74 [(1, .slice xa0 S0.1.length xc0), (2, .pointer (some ⟨b1, 0, none⟩)), (6, .int .i64 S0.2.1), (8, .int .i64 1), (9, .bool S0.2.2), (10, .int .i64 ((r : Int))), (35, .bool (decide ((((r : Int)) < 50 ∧ S0.2.2 = true))))] a ∧ Mem w nof [pt b1 #[.int .i64 i.kind, .int .i64 i.n, .int .i64 i.cap, .slice ax3 i.wt.length cx3, .slice ax4 i.vl.length cx4, .slice ax5 i.cost.length cx5] 25, rd xa0 xc0 S0.1] wv) ?_ (fun k2 hJ => ?_)
   ·
    clear hA hM a; rintro a w6 ⟨hA, hM⟩
    refine Ends.ite hA rfl (fun hc10 => ?_) (fun hc10 => ?_)
    ·
     have hfl9 := hc10.2
     have hr50 := hc10.1
     refine Ends.skip (Ends.seq (Ends.block (Ends.seq (Ends.region ?_))))
     refine S.val hA (R.assign rfl) rfl ?_; clear hA a; intro a hA
     refine S.done ?_
     refine Ends.seq (Ends.region ?_)
     refine S.val hA (R.move rfl) rfl ?_; clear hA a; intro a hA
     refine S.val hA (R.to (v := .int .i64 (((frm i + 0 : Nat) : Int))) (R.assign rfl) (congrArg (Value.int .i64) (by omega))) rfl ?_; clear hA a; intro a hA
     refine S.done ?_
     refine Ends.block ?_
     refine Ends.loop (σ := Nat × BS3 × Option Addr × Nat) (fun (m, S1, xa1, xc1) (a : Act) (wv : World) => St 74 [(1, .slice xa1 S1.1.length xc1), (2, .pointer (some ⟨b1, 0, none⟩)), (6, .int .i64 S1.2.1), (8, .int .i64 1), (9, .bool S1.2.2), (10, .int .i64 ((r : Int))), (11, .int .i64 (((frm i + m : Nat) : Int)))] a ∧ Mem w nof [pt b1 #[.int .i64 i.kind, .int .i64 i.n, .int .i64 i.cap, .slice ax3 i.wt.length cx3, .slice ax4 i.vl.length cx4, .slice ax5 i.cost.length cx5] 25, rd xa1 xc1 S1.1] wv ∧ (frm i + m ≤ i.n.toNat) ∧ (S1 = othB (costI i) i S0 m) ∧ (S1.1.length = i.n.toNat)) (fun (m, S1, xa1, xc1) => i.n.toNat - (frm i + m)) ((0, (S0.1, S0.2.1, false), xa0, xc0)) ⟨hA.sub ((.cons rfl (.cons rfl (.cons rfl (.cons rfl (.cons rfl (.cons rfl (.cons rfl .nil)))))))), hM, (by omega), rfl, hl0⟩ ?_
     clear hA hM a
     rintro ⟨m, S1, xa1, xc1⟩ a w7 ⟨hA, hM, hm, hS1, hl1⟩ hNext1
     refine Ends.seq (Ends.seq (Ends.region ?_))
     refine S.val hA (R.move rfl) rfl ?_; clear hA a; intro a hA
     refine S.val hA (R.fieldAddr (q := 1) fi25_1 rfl rfl rfl) rfl ?_; clear hA a; intro a hA
     refine S.val hA (R.load sz3 rfl (hM.cell (k := 0) rfl rfl)) rfl ?_; clear hA a; intro a hA
     refine S.val hA (R.lss rfl rfl) rfl ?_; clear hA a; intro a hA
     refine S.done ?_
     refine Ends.ite hA rfl (fun hc11 => ?_) (fun hc11 => ?_)
     ·
      refine Ends.skip (Ends.seq (Ends.block (Ends.seq (Ends.region ?_))))
      refine S.val hA (R.move rfl) rfl ?_; clear hA a; intro a hA
      refine S.val hA (R.addI rfl rfl (r := ((frm i + m + 1 + 0 : Nat) : Int)) (by omega) (by omega)) rfl ?_; clear hA a; intro a hA
      refine S.val hA (R.assign rfl) rfl ?_; clear hA a; intro a hA
      refine S.done ?_
      replace hA : St 74 [(1, _), (2, _), (6, _), (8, _), (9, _), (10, _), (11, _), (12, _)] a := hA.sub ((.cons rfl (.cons rfl (.cons rfl (.cons rfl (.cons rfl (.cons rfl (.cons rfl (.cons rfl .nil)))))))))
      refine Ends.block ?_
      refine Ends.loop (σ := Nat × BS3 × Option Addr × Nat) (fun (j, S2, xa2, xc2) (a : Act) (wv : World) => St 74 [(1, .slice xa2 S2.1.length xc2), (2, .pointer (some ⟨b1, 0, none⟩)), (6, .int .i64 S2.2.1), (8, .int .i64 1), (9, .bool S2.2.2), (10, .int .i64 ((r : Int))), (11, .int .i64 (((frm i + m : Nat) : Int))), (12, .int .i64 (((frm i + m + 1 + j : Nat) : Int)))] a ∧ Mem w nof [pt b1 #[.int .i64 i.kind, .int .i64 i.n, .int .i64 i.cap, .slice ax3 i.wt.length cx3, .slice ax4 i.vl.length cx4, .slice ax5 i.cost.length cx5] 25, rd xa2 xc2 S2.1] wv ∧ (frm i + m + 1 + j ≤ i.n.toNat) ∧ (S2 = innB (costI i) i S1 (frm i + m) j) ∧ (S2.1.length = i.n.toNat)) (fun (j, S2, xa2, xc2) => i.n.toNat - (frm i + m + 1 + j)) ((0, S1, xa1, xc1)) ⟨hA.sub ((.cons rfl (.cons rfl (.cons rfl (.cons rfl (.cons rfl (.cons rfl (.cons rfl (.cons rfl .nil))))))))), hM, (by omega), rfl, hl1⟩ ?_
      clear hA hM a
      rintro ⟨j, S2, xa2, xc2⟩ a w8 ⟨hA, hM, hj, hS2, hl2⟩ hNext2
      refine Ends.seq (Ends.seq (Ends.region ?_))
      refine S.val hA (R.move rfl) rfl ?_; clear hA a; intro a hA
      refine S.val hA (R.fieldAddr (q := 1) fi25_1 rfl rfl rfl) rfl ?_; clear hA a; intro a hA
      refine S.val hA (R.load sz3 rfl (hM.cell (k := 0) rfl rfl)) rfl ?_; clear hA a; intro a hA
      refine S.val hA (R.lss rfl rfl) rfl ?_; clear hA a; intro a hA
      refine S.done ?_
      refine Ends.ite hA rfl (fun hc12 => ?_) (fun hc12 => ?_)
      ·
       have hcgl := chg_len i S2.1 (frm i + m) (frm i + m + 1 + j)
       refine Ends.skip (Ends.seq (Ends.block (Ends.seq (Ends.region ?_))))
       refine S.val hA (R.loadA sz25 rfl (hM.range (k := 0) rfl) rfl) rfl ?_; clear hA a; intro a hA
       refine S.val hA (R.move rfl) rfl ?_; clear hA a; intro a hA
       refine S.val hA (R.move rfl) rfl ?_; clear hA a; intro a hA
       refine S.val hA (R.move rfl) rfl ?_; clear hA a; intro a hA
       refine S.call hA (R.callF Try.func51 rfl rfl rfl) rfl (rchanged10 i ax3 cx3 ax4 cx4 ax5 cx5 xa2 S2.1 xc2 (frm i + m) (frm i + m + 1 + j) (by omega) (by omega) (by omega) _ (hx3.mem hM) (hx4.mem hM) (hx5.mem hM) (hM.rd (k := 1) rfl)) ?_; clear hA a
       rintro e w9 ⟨ra3, rc3, rfl, hli, hlf, hb⟩
       replace hM : Mem _ _ [rd ra3 rc3 ((chg i S2.1 (frm i + m) (frm i + m + 1 + j))), pt b1 #[.int .i64 i.kind, .int .i64 i.n, .int .i64 i.cap, .slice ax3 i.wt.length cx3, .slice ax4 i.vl.length cx4, .slice ax5 i.cost.length cx5] 25, rd xa2 xc2 S2.1] _ := hM.callRd hb hli hlf; clear hb
       refine ⟨.slice ra3 (((chg i S2.1 (frm i + m) (frm i + m + 1 + j))).length) rc3, rfl, fun a hA => ?_⟩
       refine S.val hA (R.assign rfl) rfl ?_; clear hA a; intro a hA
       refine S.done ?_
       replace hA : St 74 [(1, _), (2, _), (6, _), (8, _), (9, _), (10, _), (11, _), (12, _), (13, _)] a := hA.sub ((.cons rfl (.cons rfl (.cons rfl (.cons rfl (.cons rfl (.cons rfl (.cons rfl (.cons rfl (.cons rfl .nil))))))))))
       refine Ends.seq (Ends.region ?_)
       refine S.val hA (R.loadA sz25 rfl (hM.range (k := 1) rfl) rfl) rfl ?_; clear hA a; intro a hA
       refine S.val hA (R.move rfl) rfl ?_; clear hA a; intro a hA
       refine S.call hA (R.callF Try.func20 rfl rfl rfl) rfl (rcost08 i ax3 cx3 ax4 cx4 ax5 cx5 ra3 ((chg i S2.1 (frm i + m) (frm i + m + 1 + j))) rc3 _ (hx3.mem hM) (hx4.mem hM) (hx5.mem hM) (hM.rd (k := 0) rfl)) ?_; clear hA a
       rintro e w10 ⟨rfl, hb⟩
       replace hM := hM.callB hb; clear hb
       refine ⟨.tuple #[.int .i64 ((costI i ((chg i S2.1 (frm i + m) (frm i + m + 1 + j)))).1), .int .i64 ((costI i ((chg i S2.1 (frm i + m) (frm i + m + 1 + j)))).2)], rfl, fun a hA => ?_⟩
       refine S.val hA (R.move rfl) rfl ?_; clear hA a; intro a hA
       refine S.val hA (R.extract (v := .int .i64 ((costI i ((chg i S2.1 (frm i + m) (frm i + m + 1 + j)))).1)) rfl rfl) rfl ?_; clear hA a; intro a hA
       refine S.val hA (R.extract (v := .int .i64 ((costI i ((chg i S2.1 (frm i + m) (frm i + m + 1 + j)))).2)) rfl rfl) rfl ?_; clear hA a; intro a hA
       refine S.val hA (R.assign rfl) rfl ?_; clear hA a; intro a hA
       refine S.val hA (R.assign rfl) rfl ?_; clear hA a; intro a hA
       refine S.done ?_
       replace hA : St 74 [(1, _), (2, _), (6, _), (8, _), (9, _), (10, _), (11, _), (12, _), (13, _), (14, _), (15, _)] a := hA.sub ((.cons rfl (.cons rfl (.cons rfl (.cons rfl (.cons rfl (.cons rfl (.cons rfl (.cons rfl (.cons rfl (.cons rfl (.cons rfl .nil))))))))))))
       refine Ends.seq ?_
       refine Ends.cut (fun (a : Act) (wv : World) => St 74 [(1, .slice xa2 S2.1.length xc2), (2, .pointer (some ⟨b1, 0, none⟩)), (6, .int .i64 S2.2.1), (8, .int .i64 1), (9, .bool S2.2.2), (10, .int .i64 ((r : Int))), (11, .int .i64 (((frm i + m : Nat) : Int))), (12, .int .i64 (((frm i + m + 1 + j : Nat) : Int))), (13, .slice ra3 (((chg i S2.1 (frm i + m) (frm i + m + 1 + j))).length) rc3), (14, .int .i64 ((costI i ((chg i S2.1 (frm i + m) (frm i + m + 1 + j)))).1)), (70, .bool (decide ((((costI i ((chg i S2.1 (frm i + m) (frm i + m + 1 + j)))).2) = 0 ∧ ((costI i ((chg i S2.1 (frm i + m) (frm i + m + 1 + j)))).1) < S2.2.1))))] a ∧ Mem w nof [rd ra3 rc3 ((chg i S2.1 (frm i + m) (frm i + m + 1 + j))), pt b1 #[.int .i64 i.kind, .int .i64 i.n, .int .i64 i.cap, .slice ax3 i.wt.length cx3, .slice ax4 i.vl.length cx4, .slice ax5 i.cost.length cx5] 25, rd xa2 xc2 S2.1] wv) ?_ (fun k2 hJ => ?_)
       ·
        clear hA hM a; rintro a w11 ⟨hA, hM⟩
        refine Ends.ite hA rfl (fun hc13 => ?_) (fun hc13 => ?_)
        ·
         refine Ends.seq (Ends.region ?_)
         refine S.val hA (R.move rfl) rfl ?_; clear hA a; intro a hA
         refine S.val hA (R.move rfl) rfl ?_; clear hA a; intro a hA
         refine S.val hA (R.assign rfl) rfl ?_; clear hA a; intro a hA
         refine S.val hA (R.assign rfl) rfl ?_; clear hA a; intro a hA
         refine S.done ?_
         replace hA : St 74 [(1, _), (2, _), (6, _), (8, _), (10, _), (11, _), (12, _)] a := hA.sub ((.cons rfl (.cons rfl (.cons rfl (.cons rfl (.cons rfl (.cons rfl (.cons rfl .nil))))))))
         refine Ends.region ?_
         refine S.val hA (R.assign rfl) rfl ?_; clear hA a; intro a hA
         refine S.done ?_
         refine Ends.inBlock (Ends.region ?_)
         refine S.val hA (R.move rfl) rfl ?_; clear hA a; intro a hA
         refine S.val hA (R.addI rfl rfl (r := ((frm i + m + 1 + (j + 1) : Nat) : Int)) (by omega) (by omega)) rfl ?_; clear hA a; intro a hA
         refine S.val hA (R.assign rfl) rfl ?_; clear hA a; intro a hA
         refine S.done ?_
         replace hM := hM.front (k := 1) rfl
         replace hM := hM.firstN 2
         replace hM : Mem _ _ [pt b1 #[.int .i64 i.kind, .int .i64 i.n, .int .i64 i.cap, .slice ax3 i.wt.length cx3, .slice ax4 i.vl.length cx4, .slice ax5 i.cost.length cx5] 25, rd ra3 rc3 ((chg i S2.1 (frm i + m) (frm i + m + 1 + j)))] _ := hM
         exact hNext2 ((j + 1, ((chg i S2.1 (frm i + m) (frm i + m + 1 + j)), (costI i (chg i S2.1 (frm i + m) (frm i + m + 1 + j))).1, true), ra3, rc3)) _ _ ((by show i.n.toNat - (frm i + m + 1 + (j + 1)) < i.n.toNat - (frm i + m + 1 + j); omega)) ⟨hA.sub ((.cons rfl (.cons rfl (.cons rfl (.cons rfl (.cons rfl (.cons rfl (.cons rfl (.cons rfl .nil))))))))), hM, (by omega), (by rw [innB, ← hS2]; exact (tr1_yes hc13).symm), (by show (chg _ _ _ _).length = _; rw [chg_len]; exact hl2)⟩
        ·
         refine Ends.skip (Ends.inBlock (Ends.region ?_))
         refine S.val hA (R.move rfl) rfl ?_; clear hA a; intro a hA
         refine S.val hA (R.addI rfl rfl (r := ((frm i + m + 1 + (j + 1) : Nat) : Int)) (by omega) (by omega)) rfl ?_; clear hA a; intro a hA
         refine S.val hA (R.assign rfl) rfl ?_; clear hA a; intro a hA
         refine S.done ?_
         replace hA : St 74 [(1, _), (2, _), (6, _), (8, _), (9, _), (10, _), (11, _), (12, _)] a := hA.sub ((.cons rfl (.cons rfl (.cons rfl (.cons rfl (.cons rfl (.cons rfl (.cons rfl (.cons rfl .nil)))))))))
         replace hM := hM.front (k := 2) rfl
         replace hM := hM.front (k := 2) rfl
         replace hM := hM.firstN 2
         replace hM : Mem _ _ [pt b1 #[.int .i64 i.kind, .int .i64 i.n, .int .i64 i.cap, .slice ax3 i.wt.length cx3, .slice ax4 i.vl.length cx4, .slice ax5 i.cost.length cx5] 25, rd xa2 xc2 S2.1] _ := hM
         exact hNext2 ((j + 1, S2, xa2, xc2)) _ _ ((by show i.n.toNat - (frm i + m + 1 + (j + 1)) < i.n.toNat - (frm i + m + 1 + j); omega)) ⟨hA.sub ((.cons rfl (.cons rfl (.cons rfl (.cons rfl (.cons rfl (.cons rfl (.cons rfl (.cons rfl .nil))))))))), hM, (by omega), (by rw [innB, ← hS2]; exact (tr1_no hc13).symm), hl2⟩
       ·
        refine Ends.region ?_
        refine S.val hA (R.move rfl) rfl ?_; clear hA a; intro a hA
        refine S.val hA (R.eql rfl rfl) rfl ?_; clear hA a; intro a hA
        refine S.val hA (R.move rfl) rfl ?_; clear hA a; intro a hA
        refine hA.split (d := 66) rfl ?_ ?_
        ·
         clear hA; intro hg14 hA
         refine S.valg (dj := 66) hA (by kernel_rfl) rfl (R.move rfl) rfl ?_; clear hA a; intro a hA
         refine S.valg (dj := 66) hA (by kernel_rfl) rfl (R.move rfl) rfl ?_; clear hA a; intro a hA
         refine S.valg (dj := 66) hA (by kernel_rfl) rfl (R.lss rfl rfl) rfl ?_; clear hA a; intro a hA
         refine S.val hA (R.pickT rfl rfl) rfl ?_; clear hA a; intro a hA
         refine S.done ?_
         replace hA : St 74 [(1, _), (2, _), (6, _), (8, _), (9, _), (10, _), (11, _), (12, _), (13, _), (14, _), (70, _)] a := hA.sub ((.cons rfl (.cons rfl (.cons rfl (.cons rfl (.cons rfl (.cons rfl (.cons rfl (.cons rfl (.cons rfl (.cons rfl (.cons rfl .nil))))))))))))
         exact hJ _ _ ⟨hA.sub (.cons rfl (.cons rfl (.cons rfl (.cons rfl (.cons rfl (.cons rfl (.cons rfl (.cons rfl (.cons rfl (.cons rfl (.cons (by first | rfl | exact congrArg (fun b => some (Value.bool b)) (by first | exact decide_eq_decide.2 (by omega) | exact or_bool (by omega) | exact and_bool (by omega) | (simp; done) | (simp [hg14]; done) | (have h80 := hg14; (try simp at h80); simp [h80]; done) | exact (decide_eq_false (fun h9 => hg14 h9.1)).symm)) .nil))))))))))), hM⟩
        ·
         clear hA; intro hg14 hA
         refine S.no (dj := 66) hA (by kernel_rfl) rfl rfl rfl ?_; clear hA a; intro a hA
         refine S.no (dj := 66) hA (by kernel_rfl) rfl rfl rfl ?_; clear hA a; intro a hA
         refine S.no (dj := 66) hA (by kernel_rfl) rfl rfl rfl ?_; clear hA a; intro a hA
         refine S.val hA (R.pickF rfl rfl) rfl ?_; clear hA a; intro a hA
         refine S.done ?_
         replace hA : St 74 [(1, _), (2, _), (6, _), (8, _), (9, _), (10, _), (11, _), (12, _), (13, _), (14, _), (70, _)] a := hA.sub ((.cons rfl (.cons rfl (.cons rfl (.cons rfl (.cons rfl (.cons rfl (.cons rfl (.cons rfl (.cons rfl (.cons rfl (.cons rfl .nil))))))))))))
         exact hJ _ _ ⟨hA.sub (.cons rfl (.cons rfl (.cons rfl (.cons rfl (.cons rfl (.cons rfl (.cons rfl (.cons rfl (.cons rfl (.cons rfl (.cons (by first | rfl | exact congrArg (fun b => some (Value.bool b)) (by first | exact decide_eq_decide.2 (by omega) | exact or_bool (by omega) | exact and_bool (by omega) | (simp; done) | (simp [hg14]; done) | (have h80 := hg14; (try simp at h80); simp [h80]; done) | exact (decide_eq_false (fun h9 => hg14 h9.1)).symm)) .nil))))))))))), hM⟩
      ·
       have hje : j = i.n.toNat - 1 - (frm i + m) := by omega
       refine Ends.exit rfl ?_
       replace hA : St 74 [(1, _), (2, _), (6, _), (8, _), (9, _), (10, _), (11, _)] a := hA.sub ((.cons rfl (.cons rfl (.cons rfl (.cons rfl (.cons rfl (.cons rfl (.cons rfl .nil))))))))
       refine Ends.inBlock (Ends.region ?_)
       refine S.val hA (R.move rfl) rfl ?_; clear hA a; intro a hA
       refine S.val hA (R.addI rfl rfl (r := ((frm i + (m + 1) : Nat) : Int)) (by omega) (by omega)) rfl ?_; clear hA a; intro a hA
       refine S.val hA (R.assign rfl) rfl ?_; clear hA a; intro a hA
       refine S.done ?_
       exact hNext1 ((m + 1, S2, xa2, xc2)) _ _ ((by show i.n.toNat - (frm i + (m + 1)) < i.n.toNat - (frm i + m); omega)) ⟨hA.sub ((.cons rfl (.cons rfl (.cons rfl (.cons rfl (.cons rfl (.cons rfl (.cons rfl .nil)))))))), hM, (by omega), (by rw [othB, ← hS1, ← hje]; exact hS2), hl2⟩
     ·
      refine Ends.exit rfl ?_
      replace hA : St 74 [(1, _), (2, _), (6, _), (8, _), (9, _), (10, _)] a := hA.sub ((.cons rfl (.cons rfl (.cons rfl (.cons rfl (.cons rfl (.cons rfl .nil)))))))
      refine Ends.inBlock (Ends.region ?_)
      refine S.val hA (R.move rfl) rfl ?_; clear hA a; intro a hA
      refine S.val hA (R.addI rfl rfl (r := ((r : Int)) + 1) rfl (by omega)) rfl ?_; clear hA a; intro a hA
      refine S.val hA (R.assign rfl) rfl ?_; clear hA a; intro a hA
      refine S.done ?_
      exact hNext ((r + 1, S1, xa1, xc1)) _ _ ((by show 50 - (r + 1) < 50 - r; omega)) ⟨hA.sub ((.cons rfl (.cons rfl (.cons rfl (.cons rfl (.cons rfl (.cons rfl .nil))))))), hM, (by omega), (by rw [rnds_go (by rw [← hS]; exact hfl9), ← hS, hS1, show m = i.n.toNat - frm i by omega]; rfl), hl1⟩
    ·
     refine Ends.exit rfl ?_
     replace hA : St 74 [(1, _)] a := hA.sub ((.cons rfl .nil))
     refine Ends.seq (Ends.region ?_)
     refine S.val hA (R.move rfl) rfl ?_; clear hA a; intro a hA
     refine S.val hA (R.assign rfl) rfl ?_; clear hA a; intro a hA
     refine S.val hA (R.assign rfl) rfl ?_; clear hA a; intro a hA
     refine S.done ?_
     refine Ends.ret2 Try.func30 Try.results30 hA rfl rfl ?_
     have hfin : S0.1 = betI i x := by rw [betI_yes hz0, hS, rnds_all (Classical.byContradiction fun g => hc10 ⟨by have : ¬ r = 50 := fun e9 => g (.inl e9); omega, by rw [hS]; exact Classical.byContradiction fun g9 => g (.inr g9)⟩) hr]; rfl
     have hr9 := hM.rd (k := 1) rfl
     rw [hfin] at hr9 ⊢
     rw [hz0]
     exact ⟨_, _, rfl, hr9, Mem.trans0 hbs hM.nilL⟩
   ·
    refine Ends.region ?_
    refine S.val hA (R.move rfl) rfl ?_; clear hA a; intro a hA
    refine S.val hA (R.lss rfl rfl) rfl ?_; clear hA a; intro a hA
    refine S.val hA (R.move rfl) rfl ?_; clear hA a; intro a hA
    refine hA.split (d := 33) rfl ?_ ?_
    ·
     clear hA; intro hg15 hA
     refine S.valg (dj := 33) hA (by kernel_rfl) rfl (R.move rfl) rfl ?_; clear hA a; intro a hA
     refine S.val hA (R.pickT rfl rfl) rfl ?_; clear hA a; intro a hA
     refine S.done ?_
     replace hA : St 74 [(1, _), (2, _), (6, _), (8, _), (9, _), (10, _), (35, _)] a := hA.sub ((.cons rfl (.cons rfl (.cons rfl (.cons rfl (.cons rfl (.cons rfl (.cons rfl .nil))))))))
     exact hJ _ _ ⟨hA.sub (.cons rfl (.cons rfl (.cons rfl (.cons rfl (.cons rfl (.cons rfl (.cons (by first | rfl | exact congrArg (fun b => some (Value.bool b)) (by first | exact decide_eq_decide.2 (by omega) | exact or_bool (by omega) | exact and_bool (by omega) | (simp; done) | (simp [hg15]; done) | (have h80 := hg15; (try simp at h80); simp [h80]; done) | exact (decide_eq_false (fun h9 => hg15 h9.1)).symm)) .nil))))))), hM⟩
    ·
     clear hA; intro hg15 hA
     refine S.no (dj := 33) hA (by kernel_rfl) rfl rfl rfl ?_; clear hA a; intro a hA
     refine S.val hA (R.pickF rfl rfl) rfl ?_; clear hA a; intro a hA
     refine S.done ?_
     replace hA : St 74 [(1, _), (2, _), (6, _), (8, _), (9, _), (10, _), (35, _)] a := hA.sub ((.cons rfl (.cons rfl (.cons rfl (.cons rfl (.cons rfl (.cons rfl (.cons rfl .nil))))))))
     exact hJ _ _ ⟨hA.sub (.cons rfl (.cons rfl (.cons rfl (.cons rfl (.cons rfl (.cons rfl (.cons (by first | rfl | exact congrArg (fun b => some (Value.bool b)) (by first | exact decide_eq_decide.2 (by omega) | exact or_bool (by omega) | exact and_bool (by omega) | (simp; done) | (simp [hg15]; done) | (have h80 := hg15; (try simp at h80); simp [h80]; done) | exact (decide_eq_false (fun h9 => hg15 h9.1)).symm)) .nil))))))), hM⟩
  ·
   have hk3 := hc9
   have hfr : frm i = 0 := if_neg hk3
   refine Ends.skip (Ends.seq (Ends.region ?_))
   refine S.val hA (R.assign rfl) rfl ?_; clear hA a; intro a hA
   refine S.done ?_
   refine Ends.seq (Ends.seq (Ends.region ?_))
   refine S.val hA (R.assign rfl) rfl ?_; clear hA a; intro a hA
   refine S.done ?_
   refine Ends.block ?_
   refine Ends.loop (σ := Nat × BS3 × Option Addr × Nat) (fun (r, S0, xa0, xc0) (a : Act) (wv : World) => St 74 [(1, .slice xa0 S0.1.length xc0), (2, .pointer (some ⟨b1, 0, none⟩)), (6, .int .i64 S0.2.1), (8, .int .i64 0), (9, .bool S0.2.2), (10, .int .i64 ((r : Int)))] a ∧ Mem w nof [pt b1 #[.int .i64 i.kind, .int .i64 i.n, .int .i64 i.cap, .slice ax3 i.wt.length cx3, .slice ax4 i.vl.length cx4, .slice ax5 i.cost.length cx5] 25, rd xa0 xc0 S0.1] wv ∧ (r ≤ 50) ∧ (S0 = rndsB (costI i) i (x, (costI i x).1, true) r) ∧ (S0.1.length = i.n.toNat)) (fun (r, S0, xa0, xc0) => 50 - r) ((0, (x, (costI i x).1, true), a6, c7)) ⟨hA.sub ((.cons rfl (.cons rfl (.cons rfl (.cons rfl (.cons rfl (.cons rfl .nil))))))), hM, (by omega), rfl, hlx9⟩ ?_
   clear hA hM a
   rintro ⟨r, S0, xa0, xc0⟩ a w12 ⟨hA, hM, hr, hS, hl0⟩ hNext
   refine Ends.seq (Ends.seq ?_)
   refine Ends.cut (fun (a : Act) (wv : World) => St 74 [(1, .slice xa0 S0.1.length xc0), (2, .pointer (some ⟨b1, 0, none⟩)), (6, .int .i64 S0.2.1), (8, .int .i64 0), (9, .bool S0.2.2), (10, .int .i64 ((r : Int))), (35, .bool (decide ((((r : Int)) < 50 ∧ S0.2.2 = true))))] a ∧ Mem w nof [pt b1 #[.int .i64 i.kind, .int .i64 i.n, .int .i64 i.cap, .slice ax3 i.wt.length cx3, .slice ax4 i.vl.length cx4, .slice ax5 i.cost.length cx5] 25, rd xa0 xc0 S0.1] wv) ?_ (fun k2 hJ => ?_)
   ·
    clear hA hM a; rintro a w13 ⟨hA, hM⟩
    refine Ends.ite hA rfl (fun hc16 => ?_) (fun hc16 => ?_)
    ·
     have hfl9 := hc16.2
     have hr50 := hc16.1
     refine Ends.skip (Ends.seq (Ends.block (Ends.seq (Ends.region ?_))))
     refine S.val hA (R.assign rfl) rfl ?_; clear hA a; intro a hA
     refine S.done ?_
     refine Ends.seq (Ends.region ?_)
     refine S.val hA (R.move rfl) rfl ?_; clear hA a; intro a hA
     refine S.val hA (R.to (v := .int .i64 (((frm i + 0 : Nat) : Int))) (R.assign rfl) (congrArg (Value.int .i64) (by omega))) rfl ?_; clear hA a; intro a hA
     refine S.done ?_
     refine Ends.block ?_
     refine Ends.loop (σ := Nat × BS3 × Option Addr × Nat) (fun (m, S1, xa1, xc1) (a : Act) (wv : World) => St 74 [(1, .slice xa1 S1.1.length xc1), (2, .pointer (some ⟨b1, 0, none⟩)), (6, .int .i64 S1.2.1), (8, .int .i64 0), (9, .bool S1.2.2), (10, .int .i64 ((r : Int))), (11, .int .i64 (((frm i + m : Nat) : Int)))] a ∧ Mem w nof [pt b1 #[.int .i64 i.kind, .int .i64 i.n, .int .i64 i.cap, .slice ax3 i.wt.length cx3, .slice ax4 i.vl.length cx4, .slice ax5 i.cost.length cx5] 25, rd xa1 xc1 S1.1] wv ∧ (frm i + m ≤ i.n.toNat) ∧ (S1 = othB (costI i) i S0 m) ∧ (S1.1.length = i.n.toNat)) (fun (m, S1, xa1, xc1) => i.n.toNat - (frm i + m)) ((0, (S0.1, S0.2.1, false), xa0, xc0)) ⟨hA.sub ((.cons rfl (.cons rfl (.cons rfl (.cons rfl (.cons rfl (.cons rfl (.cons rfl .nil)))))))), hM, (by omega), rfl, hl0⟩ ?_
     clear hA hM a
     rintro ⟨m, S1, xa1, xc1⟩ a w14 ⟨hA, hM, hm, hS1, hl1⟩ hNext1
     refine Ends.seq (Ends.seq (Ends.region ?_))
     refine S.val hA (R.move rfl) rfl ?_; clear hA a; intro a hA
     refine S.val hA (R.fieldAddr (q := 1) fi25_1 rfl rfl rfl) rfl ?_; clear hA a; intro a hA
     refine S.val hA (R.load sz3 rfl (hM.cell (k := 0) rfl rfl)) rfl ?_; clear hA a; intro a hA
     refine S.val hA (R.lss rfl rfl) rfl ?_; clear hA a; intro a hA
     refine S.done ?_
     refine Ends.ite hA rfl (fun hc17 => ?_) (fun hc17 => ?_)
     ·
      refine Ends.skip (Ends.seq (Ends.block (Ends.seq (Ends.region ?_))))
      refine S.val hA (R.move rfl) rfl ?_; clear hA a; intro a hA
      refine S.val hA (R.addI rfl rfl (r := ((frm i + m + 1 + 0 : Nat) : Int)) (by omega) (by omega)) rfl ?_; clear hA a; intro a hA
      refine S.val hA (R.assign rfl) rfl ?_; clear hA a; intro a hA
      refine S.done ?_
      replace hA : St 74 [(1, _), (2, _), (6, _), (8, _), (9, _), (10, _), (11, _), (12, _)] a := hA.sub ((.cons rfl (.cons rfl (.cons rfl (.cons rfl (.cons rfl (.cons rfl (.cons rfl (.cons rfl .nil)))))))))
      refine Ends.block ?_
      refine Ends.loop (σ := Nat × BS3 × Option Addr × Nat) (fun (j, S2, xa2, xc2) (a : Act) (wv : World) => St 74 [(1, .slice xa2 S2.1.length xc2), (2, .pointer (some ⟨b1, 0, none⟩)), (6, .int .i64 S2.2.1), (8, .int .i64 0), (9, .bool S2.2.2), (10, .int .i64 ((r : Int))), (11, .int .i64 (((frm i + m : Nat) : Int))), (12, .int .i64 (((frm i + m + 1 + j : Nat) : Int)))] a ∧ Mem w nof [pt b1 #[.int .i64 i.kind, .int .i64 i.n, .int .i64 i.cap, .slice ax3 i.wt.length cx3, .slice ax4 i.vl.length cx4, .slice ax5 i.cost.length cx5] 25, rd xa2 xc2 S2.1] wv ∧ (frm i + m + 1 + j ≤ i.n.toNat) ∧ (S2 = innB (costI i) i S1 (frm i + m) j) ∧ (S2.1.length = i.n.toNat)) (fun (j, S2, xa2, xc2) => i.n.toNat - (frm i + m + 1 + j)) ((0, S1, xa1, xc1)) ⟨hA.sub ((.cons rfl (.cons rfl (.cons rfl (.cons rfl (.cons rfl (.cons rfl (.cons rfl (.cons rfl .nil))))))))), hM, (by omega), rfl, hl1⟩ ?_
      clear hA hM a
      rintro ⟨j, S2, xa2, xc2⟩ a w15 ⟨hA, hM, hj, hS2, hl2⟩ hNext2
      refine Ends.seq (Ends.seq (Ends.region ?_))
      refine S.val hA (R.move rfl) rfl ?_; clear hA a; intro a hA
      refine S.val hA (R.fieldAddr (q := 1) fi25_1 rfl rfl rfl) rfl ?_; clear hA a; intro a hA
      refine S.val hA (R.load sz3 rfl (hM.cell (k := 0) rfl rfl)) rfl ?_; clear hA a; intro a hA
      refine S.val hA (R.lss rfl rfl) rfl ?_; clear hA a; intro a hA
      refine S.done ?_
      refine Ends.ite hA rfl (fun hc18 => ?_) (fun hc18 => ?_)
      ·
       have hcgl := chg_len i S2.1 (frm i + m) (frm i + m + 1 + j)
       refine Ends.skip (Ends.seq (Ends.block (Ends.seq (Ends.region ?_))))
       refine S.val hA (R.loadA sz25 rfl (hM.range (k := 0) rfl) rfl) rfl ?_; clear hA a; intro a hA
       refine S.val hA (R.move rfl) rfl ?_; clear hA a; intro a hA
       refine S.val hA (R.move rfl) rfl ?_; clear hA a; intro a hA
       refine S.val hA (R.move rfl) rfl ?_; clear hA a; intro a hA
       refine S.call hA (R.callF Try.func51 rfl rfl rfl) rfl (rchanged10 i ax3 cx3 ax4 cx4 ax5 cx5 xa2 S2.1 xc2 (frm i + m) (frm i + m + 1 + j) (by omega) (by omega) (by omega) _ (hx3.mem hM) (hx4.mem hM) (hx5.mem hM) (hM.rd (k := 1) rfl)) ?_; clear hA a
       rintro e w16 ⟨ra3, rc3, rfl, hli, hlf, hb⟩
       replace hM : Mem _ _ [rd ra3 rc3 ((chg i S2.1 (frm i + m) (frm i + m + 1 + j))), pt b1 #[.int .i64 i.kind, .int .i64 i.n, .int .i64 i.cap, .slice ax3 i.wt.length cx3, .slice ax4 i.vl.length cx4, .slice ax5 i.cost.length cx5] 25, rd xa2 xc2 S2.1] _ := hM.callRd hb hli hlf; clear hb
       refine ⟨.slice ra3 (((chg i S2.1 (frm i + m) (frm i + m + 1 + j))).length) rc3, rfl, fun a hA => ?_⟩
       refine S.val hA (R.assign rfl) rfl ?_; clear hA a; intro a hA
       refine S.done ?_
       replace hA : St 74 [(1, _), (2, _), (6, _), (8, _), (9, _), (10, _), (11, _), (12, _), (13, _)] a := hA.sub ((.cons rfl (.cons rfl (.cons rfl (.cons rfl (.cons rfl (.cons rfl (.cons rfl (.cons rfl (.cons rfl .nil))))))))))
       refine Ends.seq (Ends.region ?_)
       refine S.val hA (R.loadA sz25 rfl (hM.range (k := 1) rfl) rfl) rfl ?_; clear hA a; intro a hA
       refine S.val hA (R.move rfl) rfl ?_; clear hA a; intro a hA
       refine S.call hA (R.callF Try.func20 rfl rfl rfl) rfl (rcost08 i ax3 cx3 ax4 cx4 ax5 cx5 ra3 ((chg i S2.1 (frm i + m) (frm i + m + 1 + j))) rc3 _ (hx3.mem hM) (hx4.mem hM) (hx5.mem hM) (hM.rd (k := 0) rfl)) ?_; clear hA a
       rintro e w17 ⟨rfl, hb⟩
       replace hM := hM.callB hb; clear hb
       refine ⟨.tuple #[.int .i64 ((costI i ((chg i S2.1 (frm i + m) (frm i + m + 1 + j)))).1), .int .i64 ((costI i ((chg i S2.1 (frm i + m) (frm i + m + 1 + j)))).2)], rfl, fun a hA => ?_⟩
       refine S.val hA (R.move rfl) rfl ?_; clear hA a; intro a hA
       refine S.val hA (R.extract (v := .int .i64 ((costI i ((chg i S2.1 (frm i + m) (frm i + m + 1 + j)))).1)) rfl rfl) rfl ?_; clear hA a; intro a hA
       refine S.val hA (R.extract (v := .int .i64 ((costI i ((chg i S2.1 (frm i + m) (frm i + m + 1 + j)))).2)) rfl rfl) rfl ?_; clear hA a; intro a hA
       refine S.val hA (R.assign rfl) rfl ?_; clear hA a; intro a hA
       refine S.val hA (R.assign rfl) rfl ?_; clear hA a; intro a hA
       refine S.done ?_
       replace hA : St 74 [(1, _), (2, _), (6, _), (8, _), (9, _), (10, _), (11, _), (12, _), (13, _), (14, _), (15, _)] a := hA.sub ((.cons rfl (.cons rfl (.cons rfl (.cons rfl (.cons rfl (.cons rfl (.cons rfl (.cons rfl (.cons rfl (.cons rfl (.cons rfl .nil))))))))))))
       refine Ends.seq ?_
       refine Ends.cut (fun (a : Act) (wv : World) => St 74 [(1, .slice xa2 S2.1.length xc2), (2, .pointer (some ⟨b1, 0, none⟩)), (6, .int .i64 S2.2.1), (8, .int .i64 0), (9, .bool S2.2.2), (10, .int .i64 ((r : Int))), (11, .int .i64 (((frm i + m : Nat) : Int))), (12, .int .i64 (((frm i + m + 1 + j : Nat) : Int))), (13, .slice ra3 (((chg i S2.1 (frm i + m) (frm i + m + 1 + j))).length) rc3), (14, .int .i64 ((costI i ((chg i S2.1 (frm i + m) (frm i + m + 1 + j)))).1)), (70, .bool (decide ((((costI i ((chg i S2.1 (frm i + m) (frm i + m + 1 + j)))).2) = 0 ∧ ((costI i ((chg i S2.1 (frm i + m) (frm i + m + 1 + j)))).1) < S2.2.1))))] a ∧ Mem w nof [rd ra3 rc3 ((chg i S2.1 (frm i + m) (frm i + m + 1 + j))), pt b1 #[.int .i64 i.kind, .int .i64 i.n, .int .i64 i.cap, .slice ax3 i.wt.length cx3, .slice ax4 i.vl.length cx4, .slice ax5 i.cost.length cx5] 25, rd xa2 xc2 S2.1] wv) ?_ (fun k2 hJ => ?_)
       ·
        clear hA hM a; rintro a w18 ⟨hA, hM⟩
        refine Ends.ite hA rfl (fun hc19 => ?_) (fun hc19 => ?_)
        ·
         refine Ends.seq (Ends.region ?_)
         refine S.val hA (R.move rfl) rfl ?_; clear hA a; intro a hA
         refine S.val hA (R.move rfl) rfl ?_; clear hA a; intro a hA
         refine S.val hA (R.assign rfl) rfl ?_; clear hA a; intro a hA
         refine S.val hA (R.assign rfl) rfl ?_; clear hA a; intro a hA
         refine S.done ?_
         replace hA : St 74 [(1, _), (2, _), (6, _), (8, _), (10, _), (11, _), (12, _)] a := hA.sub ((.cons rfl (.cons rfl (.cons rfl (.cons rfl (.cons rfl (.cons rfl (.cons rfl .nil))))))))
         refine Ends.region ?_
         refine S.val hA (R.assign rfl) rfl ?_; clear hA a; intro a hA
         refine S.done ?_
         refine Ends.inBlock (Ends.region ?_)
         refine S.val hA (R.move rfl) rfl ?_; clear hA a; intro a hA
         refine S.val hA (R.addI rfl rfl (r := ((frm i + m + 1 + (j + 1) : Nat) : Int)) (by omega) (by omega)) rfl ?_; clear hA a; intro a hA
         refine S.val hA (R.assign rfl) rfl ?_; clear hA a; intro a hA
         refine S.done ?_
         replace hM := hM.front (k := 1) rfl
         replace hM := hM.firstN 2
         replace hM : Mem _ _ [pt b1 #[.int .i64 i.kind, .int .i64 i.n, .int .i64 i.cap, .slice ax3 i.wt.length cx3, .slice ax4 i.vl.length cx4, .slice ax5 i.cost.length cx5] 25, rd ra3 rc3 ((chg i S2.1 (frm i + m) (frm i + m + 1 + j)))] _ := hM
         exact hNext2 ((j + 1, ((chg i S2.1 (frm i + m) (frm i + m + 1 + j)), (costI i (chg i S2.1 (frm i + m) (frm i + m + 1 + j))).1, true), ra3, rc3)) _ _ ((by show i.n.toNat - (frm i + m + 1 + (j + 1)) < i.n.toNat - (frm i + m + 1 + j); omega)) ⟨hA.sub ((.cons rfl (.cons rfl (.cons rfl (.cons rfl (.cons rfl (.cons rfl (.cons rfl (.cons rfl .nil))))))))), hM, (by omega), (by rw [innB, ← hS2]; exact (tr1_yes hc19).symm), (by show (chg _ _ _ _).length = _; rw [chg_len]; exact hl2)⟩
        ·
         refine Ends.skip (Ends.inBlock (Ends.region ?_))
         refine S.val hA (R.move rfl) rfl ?_; clear hA a; intro a hA
         refine S.val hA (R.addI rfl rfl (r := ((frm i + m + 1 + (j + 1) : Nat) : Int)) (by omega) (by omega)) rfl ?_; clear hA a; intro a hA
         refine S.val hA (R.assign rfl) rfl ?_; clear hA a; intro a hA
         refine S.done ?_
         replace hA : St 74 [(1, _), (2, _), (6, _), (8, _), (9, _), (10, _), (11, _), (12, _)] a := hA.sub ((.cons rfl (.cons rfl (.cons rfl (.cons rfl (.cons rfl (.cons rfl (.cons rfl (.cons rfl .nil)))))))))
         replace hM := hM.front (k := 2) rfl
         replace hM := hM.front (k := 2) rfl
         replace hM := hM.firstN 2
         replace hM : Mem _ _ [pt b1 #[.int .i64 i.kind, .int .i64 i.n, .int .i64 i.cap, .slice ax3 i.wt.length cx3, .slice ax4 i.vl.length cx4, .slice ax5 i.cost.length cx5] 25, rd xa2 xc2 S2.1] _ := hM
         exact hNext2 ((j + 1, S2, xa2, xc2)) _ _ ((by show i.n.toNat - (frm i + m + 1 + (j + 1)) < i.n.toNat - (frm i + m + 1 + j); omega)) ⟨hA.sub ((.cons rfl (.cons rfl (.cons rfl (.cons rfl (.cons rfl (.cons rfl (.cons rfl (.cons rfl .nil))))))))), hM, (by omega), (by rw [innB, ← hS2]; exact (tr1_no hc19).symm), hl2⟩
       ·
        refine Ends.region ?_
        refine S.val hA (R.move rfl) rfl ?_; clear hA a; intro a hA
        refine S.val hA (R.eql rfl rfl) rfl ?_; clear hA a; intro a hA
        refine S.val hA (R.move rfl) rfl ?_; clear hA a; intro a hA
        refine hA.split (d := 66) rfl ?_ ?_
        ·
         clear hA; intro hg20 hA
         refine S.valg (dj := 66) hA (by kernel_rfl) rfl (R.move rfl) rfl ?_; clear hA a; intro a hA
         refine S.valg (dj := 66) hA (by kernel_rfl) rfl (R.move rfl) rfl ?_; clear hA a; intro a hA
         refine S.valg (dj := 66) hA (by kernel_rfl) rfl (R.lss rfl rfl) rfl ?_; clear hA a; intro a hA
         refine S.val hA (R.pickT rfl rfl) rfl ?_; clear hA a; intro a hA
         refine S.done ?_
         replace hA : St 74 [(1, _), (2, _), (6, _), (8, _), (9, _), (10, _), (11, _), (12, _), (13, _), (14, _), (70, _)] a := hA.sub ((.cons rfl (.cons rfl (.cons rfl (.cons rfl (.cons rfl (.cons rfl (.cons rfl (.cons rfl (.cons rfl (.cons rfl (.cons rfl .nil))))))))))))
         exact hJ _ _ ⟨hA.sub (.cons rfl (.cons rfl (.cons rfl (.cons rfl (.cons rfl (.cons rfl (.cons rfl (.cons rfl (.cons rfl (.cons rfl (.cons (by first | rfl | exact congrArg (fun b => some (Value.bool b)) (by first | exact decide_eq_decide.2 (by omega) | exact or_bool (by omega) | exact and_bool (by omega) | (simp; done) | (simp [hg20]; done) | (have h80 := hg20; (try simp at h80); simp [h80]; done) | exact (decide_eq_false (fun h9 => hg20 h9.1)).symm)) .nil))))))))))), hM⟩
        ·
         clear hA; intro hg20 hA
         refine S.no (dj := 66) hA (by kernel_rfl) rfl rfl rfl ?_; clear hA a; intro a hA
         refine S.no (dj := 66) hA (by kernel_rfl) rfl rfl rfl ?_; clear hA a; intro a hA
         refine S.no (dj := 66) hA (by kernel_rfl) rfl rfl rfl ?_; clear hA a; intro a hA
         refine S.val hA (R.pickF rfl rfl) rfl ?_; clear hA a; intro a hA
         refine S.done ?_
         replace hA : St 74 [(1, _), (2, _), (6, _), (8, _), (9, _), (10, _), (11, _), (12, _), (13, _), (14, _), (70, _)] a := hA.sub ((.cons rfl (.cons rfl (.cons rfl (.cons rfl (.cons rfl (.cons rfl (.cons rfl (.cons rfl (.cons rfl (.cons rfl (.cons rfl .nil))))))))))))
         exact hJ _ _ ⟨hA.sub (.cons rfl (.cons rfl (.cons rfl (.cons rfl (.cons rfl (.cons rfl (.cons rfl (.cons rfl (.cons rfl (.cons rfl (.cons (by first | rfl | exact congrArg (fun b => some (Value.bool b)) (by first | exact decide_eq_decide.2 (by omega) | exact or_bool (by omega) | exact and_bool (by omega) | (simp; done) | (simp [hg20]; done) | (have h80 := hg20; (try simp at h80); simp [h80]; done) | exact (decide_eq_false (fun h9 => hg20 h9.1)).symm)) .nil))))))))))), hM⟩
      ·
       have hje : j = i.n.toNat - 1 - (frm i + m) := by omega
       refine Ends.exit rfl ?_
       replace hA : St 74 [(1, _), (2, _), (6, _), (8, _), (9, _), (10, _), (11, _)] a := hA.sub ((.cons rfl (.cons rfl (.cons rfl (.cons rfl (.cons rfl (.cons rfl (.cons rfl .nil))))))))
       refine Ends.inBlock (Ends.region ?_)
       refine S.val hA (R.move rfl) rfl ?_; clear hA a; intro a hA
       refine S.val hA (R.addI rfl rfl (r := ((frm i + (m + 1) : Nat) : Int)) (by omega) (by omega)) rfl ?_; clear hA a; intro a hA
       refine S.val hA (R.assign rfl) rfl ?_; clear hA a; intro a hA
       refine S.done ?_
       exact hNext1 ((m + 1, S2, xa2, xc2)) _ _ ((by show i.n.toNat - (frm i + (m + 1)) < i.n.toNat - (frm i + m); omega)) ⟨hA.sub ((.cons rfl (.cons rfl (.cons rfl (.cons rfl (.cons rfl (.cons rfl (.cons rfl .nil)))))))), hM, (by omega), (by rw [othB, ← hS1, ← hje]; exact hS2), hl2⟩
     ·
      refine Ends.exit rfl ?_
      replace hA : St 74 [(1, _), (2, _), (6, _), (8, _), (9, _), (10, _)] a := hA.sub ((.cons rfl (.cons rfl (.cons rfl (.cons rfl (.cons rfl (.cons rfl .nil)))))))
      refine Ends.inBlock (Ends.region ?_)
      refine S.val hA (R.move rfl) rfl ?_; clear hA a; intro a hA
      refine S.val hA (R.addI rfl rfl (r := ((r : Int)) + 1) rfl (by omega)) rfl ?_; clear hA a; intro a hA
      refine S.val hA (R.assign rfl) rfl ?_; clear hA a; intro a hA
      refine S.done ?_
      exact hNext ((r + 1, S1, xa1, xc1)) _ _ ((by show 50 - (r + 1) < 50 - r; omega)) ⟨hA.sub ((.cons rfl (.cons rfl (.cons rfl (.cons rfl (.cons rfl (.cons rfl .nil))))))), hM, (by omega), (by rw [rnds_go (by rw [← hS]; exact hfl9), ← hS, hS1, show m = i.n.toNat - frm i by omega]; rfl), hl1⟩
    ·
     refine Ends.exit rfl ?_
     replace hA : St 74 [(1, _)] a := hA.sub ((.cons rfl .nil))
     refine Ends.seq (Ends.region ?_)
     refine S.val hA (R.move rfl) rfl ?_; clear hA a; intro a hA
     refine S.val hA (R.assign rfl) rfl ?_; clear hA a; intro a hA
     refine S.val hA (R.assign rfl) rfl ?_; clear hA a; intro a hA
     refine S.done ?_
     refine Ends.ret2 Try.func30 Try.results30 hA rfl rfl ?_
     have hfin : S0.1 = betI i x := by rw [betI_yes hz0, hS, rnds_all (Classical.byContradiction fun g => hc16 ⟨by have : ¬ r = 50 := fun e9 => g (.inl e9); omega, by rw [hS]; exact Classical.byContradiction fun g9 => g (.inr g9)⟩) hr]; rfl
     have hr9 := hM.rd (k := 1) rfl
     rw [hfin] at hr9 ⊢
     rw [hz0]
     exact ⟨_, _, rfl, hr9, Mem.trans0 hbs hM.nilL⟩
   ·
    refine Ends.region ?_
    refine S.val hA (R.move rfl) rfl ?_; clear hA a; intro a hA
    refine S.val hA (R.lss rfl rfl) rfl ?_; clear hA a; intro a hA
    refine S.val hA (R.move rfl) rfl ?_; clear hA a; intro a hA
    refine hA.split (d := 33) rfl ?_ ?_
    ·
     clear hA; intro hg21 hA
     refine S.valg (dj := 33) hA (by kernel_rfl) rfl (R.move rfl) rfl ?_; clear hA a; intro a hA
     refine S.val hA (R.pickT rfl rfl) rfl ?_; clear hA a; intro a hA
     refine S.done ?_
     replace hA : St 74 [(1, _), (2, _), (6, _), (8, _), (9, _), (10, _), (35, _)] a := hA.sub ((.cons rfl (.cons rfl (.cons rfl (.cons rfl (.cons rfl (.cons rfl (.cons rfl .nil))))))))
     exact hJ _ _ ⟨hA.sub (.cons rfl (.cons rfl (.cons rfl (.cons rfl (.cons rfl (.cons rfl (.cons (by first | rfl | exact congrArg (fun b => some (Value.bool b)) (by first | exact decide_eq_decide.2 (by omega) | exact or_bool (by omega) | exact and_bool (by omega) | (simp; done) | (simp [hg21]; done) | (have h80 := hg21; (try simp at h80); simp [h80]; done) | exact (decide_eq_false (fun h9 => hg21 h9.1)).symm)) .nil))))))), hM⟩
    ·
     clear hA; intro hg21 hA
     refine S.no (dj := 33) hA (by kernel_rfl) rfl rfl rfl ?_; clear hA a; intro a hA
     refine S.val hA (R.pickF rfl rfl) rfl ?_; clear hA a; intro a hA
     refine S.done ?_
     replace hA : St 74 [(1, _), (2, _), (6, _), (8, _), (9, _), (10, _), (35, _)] a := hA.sub ((.cons rfl (.cons rfl (.cons rfl (.cons rfl (.cons rfl (.cons rfl (.cons rfl .nil))))))))
     exact hJ _ _ ⟨hA.sub (.cons rfl (.cons rfl (.cons rfl (.cons rfl (.cons rfl (.cons rfl (.cons (by first | rfl | exact congrArg (fun b => some (Value.bool b)) (by first | exact decide_eq_decide.2 (by omega) | exact or_bool (by omega) | exact and_bool (by omega) | (simp; done) | (simp [hg21]; done) | (have h80 := hg21; (try simp at h80); simp [h80]; done) | exact (decide_eq_false (fun h9 => hg21 h9.1)).symm)) .nil))))))), hM⟩
def staI (i : Ins) : List Int × Int × Int := if chk i ≠ 0 then ([], 0, chk i) else (betI i (frI i), (costI i (betI i (frI i))).1, 0)
theorem staI_no {i : Ins} (h : ¬ chk i = 0) : staI i = ([], 0, chk i) := if_pos h
theorem staI_yes {i : Ins} (h : chk i = 0) : staI i = (betI i (frI i), (costI i (betI i (frI i))).1, 0) := if_neg (not_not_intro h)
theorem bet_cost {i : Ins} {x : List Int} (h : (costI i x).2 = 0) : (costI i (betI i x)).2 = 0 ∧ (costI i (betI i x)).1 ≤ (costI i x).1 ∧ (betI i x).length = i.n.toNat := by
  rw [betI_yes h]
  have h1 := betB_ok (C := costI i) (i := i) (x := x) rfl h
  exact ⟨h1.2.1, h1.2.2, h1.1.trans (cost_len h)⟩
set_option maxRecDepth 100000 in
set_option maxHeartbeats 400000 in
theorem start10 (i : Ins) (ax3 : Option Addr) (cx3 : Nat) (ax4 : Option Addr) (cx4 : Nat) (ax5 : Option Addr) (cx5 : Nat) (hsm : i.wt.length ≤ 1000000 ∧ i.vl.length ≤ 1000000) (w : World) (hx3 : IntSl w (.slice ax3 i.wt.length cx3) i.wt) (hx4 : IntSl w (.slice ax4 i.vl.length cx4) i.vl) (hx5 : RowsV w (.slice ax5 i.cost.length cx5) i.cost) :
  Calls Try.prog 31 #[.agg #[.int .i64 i.kind, .int .i64 i.n, .int .i64 i.cap, .slice ax3 i.wt.length cx3, .slice ax4 i.vl.length cx4, .slice ax5 i.cost.length cx5]] w fun e w' => ∃ a c, e = .returned (.tuple #[.slice a (staI i).1.length c, .int .i64 (staI i).2.1, .int .i64 (staI i).2.2]) ∧ IntSl w' (.slice a (staI i).1.length c) (staI i).1 ∧ Below w.heap.size w w' := by
 have hbs := Below.refl (B := w.heap.size) w
 have hM := Mem.start w
 refine Calls.of_ends (vs := [.agg #[.int .i64 i.kind, .int .i64 i.n, .int .i64 i.cap, .slice ax3 i.wt.length cx3, .slice ax4 i.vl.length cx4, .slice ax5 i.cost.length cx5]]) Try.func31 rfl Try.ntmps31 rfl ?_
 intro a hA
 replace hA : St 34 [(0, _)] a := hA
 refine Ends.seq (Ends.region ?_)
 refine S.box hA hM rfl rfl ?_; clear hA hM a; intro b1 w1 hb2 hM a hA
 replace hM : Mem _ _ [pt b1 #[.int .i64 i.kind, .int .i64 i.n, .int .i64 i.cap, .slice ax3 i.wt.length cx3, .slice ax4 i.vl.length cx4, .slice ax5 i.cost.length cx5] 25] _ := hM
 refine S.val hA (R.assign rfl) rfl ?_; clear hA a; intro a hA
 refine S.val hA (R.assign rfl) rfl ?_; clear hA a; intro a hA
 refine S.val hA (R.assign rfl) rfl ?_; clear hA a; intro a hA
 refine S.done ?_
 replace hA : St 34 [(1, _)] a := hA.sub ((.cons rfl .nil))
 refine Ends.seq (Ends.region ?_)
 refine S.val hA (R.loadA sz25 rfl (hM.range (k := 0) rfl) rfl) rfl ?_; clear hA a; intro a hA
 refine S.call hA (R.callF Try.func24 rfl rfl rfl) rfl (first10 i ax3 cx3 ax4 cx4 ax5 cx5 hsm _ (hx3.mem hM) (hx4.mem hM) (hx5.mem hM)) ?_; clear hA a
 rintro e w2 ⟨ra3, rc4, rfl, rh5, hb⟩
 replace hM := hM.callB hb; clear hb
 have hbx6 := hM.block (k := 0) rfl
 have hbs := hbs.trans (hM.below.mono hbs.size)
 have hx3 := hx3.mem hM
 have hx4 := hx4.mem hM
 have hx5 := hx5.mem hM
 replace hM := Mem.start w2
 refine ⟨.tuple #[.slice ra3 (((frI i)).length) rc4, .int .i64 (chk i)], rfl, fun a hA => ?_⟩
 refine S.val hA (R.move rfl) rfl ?_; clear hA a; intro a hA
 refine S.val hA (R.extract (v := .slice ra3 (((frI i)).length) rc4) rfl rfl) rfl ?_; clear hA a; intro a hA
 refine S.val hA (R.extract (v := .int .i64 (chk i)) rfl rfl) rfl ?_; clear hA a; intro a hA
 refine S.val hA (R.assign rfl) rfl ?_; clear hA a; intro a hA
 refine S.val hA (R.assign rfl) rfl ?_; clear hA a; intro a hA
 refine S.done ?_
 replace hA : St 34 [(1, _), (5, _), (6, _)] a := hA.sub ((.cons rfl (.cons rfl (.cons rfl .nil))))
 refine Ends.seq (Ends.seq (Ends.region ?_))
 refine S.val hA (R.move rfl) rfl ?_; clear hA a; intro a hA
 refine S.val hA (R.neq rfl rfl) rfl ?_; clear hA a; intro a hA
 refine S.done ?_
 refine Ends.ite hA rfl (fun hc7 => ?_) (fun hc7 => ?_)
 ·
  have hz : ¬ chk i = 0 := hc7
  refine Ends.seq (Ends.region ?_)
  refine S.val hA (R.move rfl) rfl ?_; clear hA a; intro a hA
  refine S.val hA (R.assign rfl) rfl ?_; clear hA a; intro a hA
  refine S.val hA (R.assign rfl) rfl ?_; clear hA a; intro a hA
  refine S.val hA (R.assign rfl) rfl ?_; clear hA a; intro a hA
  refine S.done ?_
  replace hA : St 34 [(1, _), (2, _), (3, _), (4, _), (5, _)] a := hA.sub ((.cons rfl (.cons rfl (.cons rfl (.cons rfl (.cons rfl .nil))))))
  refine Ends.ret3 Try.func31 Try.results31 hA rfl rfl rfl ?_
  rw [staI_no hz]
  exact ⟨none, 0, rfl, IntSl.nil _, Mem.trans0 hbs hM.nilL⟩
 ·
  have hz : chk i = 0 := Decidable.not_not.1 hc7
  have hfc := frI_cost hz
  have hbc := bet_cost hfc
  refine Ends.skip (Ends.seq (Ends.seq (Ends.region ?_)))
  refine S.val hA (R.loadA sz25 rfl (hM.oldRange hbx6) rfl) rfl ?_; clear hA a; intro a hA
  refine S.val hA (R.move rfl) rfl ?_; clear hA a; intro a hA
  refine S.call hA (R.callF Try.func29 rfl rfl rfl) rfl (better10 i ax3 cx3 ax4 cx4 ax5 cx5 ra3 ((frI i)) rc4 hsm _ (hx3.mem hM) (hx4.mem hM) (hx5.mem hM) (rh5.mem hM)) ?_; clear hA a
  rintro e w3 ⟨ra8, rc9, rfl, rh10, hb⟩
  replace hM := hM.callB hb; clear hb
  have hbs := hbs.trans (hM.below.mono hbs.size)
  have hx3 := hx3.mem hM
  have hx4 := hx4.mem hM
  have hx5 := hx5.mem hM
  have rh5 := rh5.mem hM
  have hbx6 := hM.keepB hbx6
  replace hM := Mem.start w3
  refine ⟨.tuple #[.slice ra8 (((betI i ((frI i)))).length) rc9, .int .i64 ((costI i ((frI i))).2)], rfl, fun a hA => ?_⟩
  refine S.val hA (R.move rfl) rfl ?_; clear hA a; intro a hA
  refine S.val hA (R.extract (v := .slice ra8 (((betI i ((frI i)))).length) rc9) rfl rfl) rfl ?_; clear hA a; intro a hA
  refine S.val hA (R.extract (v := .int .i64 ((costI i ((frI i))).2)) rfl rfl) rfl ?_; clear hA a; intro a hA
  refine S.val hA (R.assign rfl) rfl ?_; clear hA a; intro a hA
  refine S.val hA (R.assign rfl) rfl ?_; clear hA a; intro a hA
  refine S.done ?_
  replace hA : St 34 [(1, _), (5, _), (6, _)] a := hA.sub ((.cons rfl (.cons rfl (.cons rfl .nil))))
  refine Ends.seq (Ends.region ?_)
  refine S.val hA (R.move rfl) rfl ?_; clear hA a; intro a hA
  refine S.val hA (R.neq rfl rfl) rfl ?_; clear hA a; intro a hA
  refine S.done ?_
  refine Ends.ite hA rfl (fun hc11 => ?_) (fun hc11 => ?_)
  · exact absurd hfc hc11
  ·
   refine Ends.skip (Ends.seq (Ends.region ?_))
   refine S.val hA (R.loadA sz25 rfl (hM.oldRange hbx6) rfl) rfl ?_; clear hA a; intro a hA
   refine S.val hA (R.move rfl) rfl ?_; clear hA a; intro a hA
   refine S.call hA (R.callF Try.func17 rfl rfl rfl) rfl (cost08 i ax3 cx3 ax4 cx4 ax5 cx5 ra8 ((betI i ((frI i)))) rc9 hsm _ (hx3.mem hM) (hx4.mem hM) (hx5.mem hM) (rh10.mem hM)) ?_; clear hA a
   rintro e w4 ⟨rfl, hb⟩
   replace hM := hM.callB hb; clear hb
   refine ⟨.tuple #[.int .i64 ((costI i ((betI i ((frI i))))).1), .int .i64 ((costI i ((betI i ((frI i))))).2)], rfl, fun a hA => ?_⟩
   refine S.val hA (R.move rfl) rfl ?_; clear hA a; intro a hA
   refine S.val hA (R.extract (v := .int .i64 ((costI i ((betI i ((frI i))))).1)) rfl rfl) rfl ?_; clear hA a; intro a hA
   refine S.val hA (R.extract (v := .int .i64 ((costI i ((betI i ((frI i))))).2)) rfl rfl) rfl ?_; clear hA a; intro a hA
   refine S.val hA (R.assign rfl) rfl ?_; clear hA a; intro a hA
   refine S.val hA (R.assign rfl) rfl ?_; clear hA a; intro a hA
   refine S.done ?_
   replace hA : St 34 [(5, _), (6, _), (7, _)] a := hA.sub ((.cons rfl (.cons rfl (.cons rfl .nil))))
   refine Ends.seq (Ends.region ?_)
   refine S.val hA (R.move rfl) rfl ?_; clear hA a; intro a hA
   refine S.val hA (R.move rfl) rfl ?_; clear hA a; intro a hA
   refine S.val hA (R.move rfl) rfl ?_; clear hA a; intro a hA
   refine S.val hA (R.assign rfl) rfl ?_; clear hA a; intro a hA
   refine S.val hA (R.assign rfl) rfl ?_; clear hA a; intro a hA
   refine S.val hA (R.assign rfl) rfl ?_; clear hA a; intro a hA
   refine S.done ?_
   replace hA : St 34 [(2, _), (3, _), (4, _)] a := hA.sub ((.cons rfl (.cons rfl (.cons rfl .nil))))
   refine Ends.ret3 Try.func31 Try.results31 hA rfl rfl rfl ?_
   rw [staI_yes hz]
   exact ⟨_, _, by rw [hbc.1], rh10.mem hM, Mem.trans0 hbs hM.nilL⟩
end Go.Proofs.Ytnikajkklocncaa
namespace Go.Proofs.Ytnikajkklocncaa
open Go.RowKit Go.WideShapes Go.ChangeShapes Go.Deep
section
variable {H : Type} {enc : TypeId × Value → H} {P : Program} {w : World}
theorem trod_ints {t e : TypeId} {fuel : Nat} {cs : List Value} {x : DataW H × List MemPlace} {held : Bool} (ht : P.underlying t = some (.slice e)) (he : P.underlying e = some (.int .i64)) (hce : P.cellsOf e = 1)
    (h : DataW.trod enc P w 0 (fun _ => true) held fuel t cs = some x) : ∃ (u : Value) (l : List Int), cs = [u] ∧ IntSl w u l ∧ ∀ y ∈ l, (Lit.int .i64 y).wf = true := by
  rcases open_ints ht he hce h with ⟨hcs, _⟩ | ⟨x, len, cap, zs, hcs, _, hl, hm, hz, _, hcell, hwz⟩
  · exact ⟨_, [], hcs, IntSl.nil w, fun x hx => by cases hx⟩
  · simp only [if_true] at hz
    refine ⟨_, zs.take len, hcs, ⟨some x, cap, by rw [List.length_take, Nat.min_eq_left (by omega)], by rw [List.length_take]; omega, hm, (fun h => nomatch h), fun hne => ?_⟩, fun y hy => hwz y (List.mem_of_mem_take hy)⟩
    have h0 : 0 < zs.length ∧ 0 < len := by
      rcases Nat.eq_zero_or_pos len with e | e
      · subst e; simp at hne
      · exact ⟨by omega, e⟩
    obtain ⟨b, off, spot⟩ := x
    have hs : spot = none := by
      have h1 := hcell 0 h0.1
      unfold Addr.add at h1
      simp only [if_true] at h1
      cases spot with
      | none => rfl
      | some s =>
        unfold World.cell? at h1
        split at h1 <;> simp at h1
    subst hs
    refine ⟨b, off, rfl, ?_, fun i hi => ?_⟩
    · have h1 := hcell 0 h0.1
      exact World.block_lt_of_cell? w _ h1
    · rw [List.length_take] at hi
      have h1 := hcell i (by omega)
      rw [Addr.add_lit] at h1
      rw [h1]
      congr 2
      simp only [List.getD_eq_getElem?_getD, List.getElem?_take]
      rw [if_pos (by omega)]
theorem trod_rows {t e f : TypeId} {fuel : Nat} {cs : List Value} {x : DataW H × List MemPlace} {held : Bool} (ht : P.underlying t = some (.slice e)) (hu : P.underlying e = some (.slice f)) (hc1 : P.cellsOf e = 1) (he : P.underlying f = some (.int .i64)) (hce : P.cellsOf f = 1)
  (h : DataW.trod enc P w 0 (fun _ => true) held fuel t cs = some x) : ∃ (u : Value) (R : List (List Int)), cs = [u] ∧ RowsV w u R ∧ ∀ r ∈ R, ∀ y ∈ r, (Lit.int .i64 y).wf = true := by
 rcases open_slice ht h with ⟨hcs, _⟩ | ⟨x, len, cap, m, nn, D, Pl, hcs, hb, hl, hm, hmm, -, hx⟩
 · exact ⟨_, [], hcs, RowsV.nil w, fun x hx => by cases hx⟩
 ·
  simp only [if_true] at hmm
  subst hmm
  have each : ∀ i, i < len → ∃ (u : Value) (l : List Int), w.cell? (x.add i) = some u ∧ IntSl w u l ∧ ∀ y ∈ l, (Lit.int .i64 y).wf = true := by
   intro i hi
   obtain ⟨cs', h1, h2⟩ := hx i (by omega)
   obtain ⟨u, l, rfl, h3, h4⟩ := trod_ints hu he hce h2
   rw [hc1, Nat.mul_one] at h1
   obtain ⟨-, hlen, hcell⟩ := World.cells?_some h1
   have h5 := hcell 0 (by omega)
   refine ⟨u, l, ?_, h3, h4⟩
   have e0 : (x.add i).add 0 = x.add i := by simp [Addr.add]
   rw [e0] at h5
   rw [h5]; rfl
  rcases Nat.eq_zero_or_pos len with e0 | e0
  ·
   subst e0
   exact ⟨_, [], hcs, ⟨some x, _, rfl, hl, hm, (fun h => nomatch h), fun h => absurd rfl h⟩, fun x hx => by cases hx⟩
  let f : Nat → List Int := fun i => if hi : i < len then Classical.choose (Classical.choose_spec (each i hi)) else []
  have hf : ∀ i, i < len → ∃ u, w.cell? (x.add i) = some u ∧ IntSl w u (f i) ∧ ∀ y ∈ f i, (Lit.int .i64 y).wf = true := fun i hi => by
   refine ⟨Classical.choose (each i hi), ?_⟩
   have := Classical.choose_spec (Classical.choose_spec (each i hi))
   simp only [f, hi, dif_pos]
   exact this
  have hlen : ((List.range len).map f).length = len := by simp
  obtain ⟨b, off, spot⟩ := x
  have hs : spot = none := by
   obtain ⟨u, h1, -⟩ := hf 0 e0
   unfold Addr.add at h1
   cases spot with
   | none => rfl
   | some s =>
    unfold World.cell? at h1
    split at h1 <;> simp at h1
  subst hs
  refine ⟨_, (List.range len).map f, hcs, ⟨some ⟨b, off, none⟩, _, by rw [hlen], by rw [hlen]; exact hl, hm, (fun h => nomatch h), fun _ => ⟨b, off, rfl, ?_, fun i hi => ?_⟩⟩, fun r hr => ?_⟩
  ·
   obtain ⟨u, h1, -⟩ := hf 0 e0
   exact World.block_lt_of_cell? w _ h1
  ·
   rw [hlen] at hi
   obtain ⟨u, h1, h2, -⟩ := hf i hi
   rw [Addr.add_lit] at h1
   refine ⟨u, h1, ?_⟩
   rw [show ((List.range len).map f).getD i [] = f i by simp [List.getD, hi]]
   exact h2
  ·
   obtain ⟨i, hi, rfl⟩ := List.mem_map.1 hr
   obtain ⟨u, -, -, h3⟩ := hf i (List.mem_range.1 hi)
   exact h3
def wfI (i : Ins) : Prop := (Lit.int .i64 i.kind).wf = true ∧ (Lit.int .i64 i.n).wf = true ∧ (Lit.int .i64 i.cap).wf = true ∧ (∀ y ∈ i.wt, (Lit.int .i64 y).wf = true) ∧ (∀ y ∈ i.vl, (Lit.int .i64 y).wf = true) ∧ ∀ r ∈ i.cost, ∀ y ∈ r, (Lit.int .i64 y).wf = true
theorem open_ins {r : Reach} {b0 : Nat} {t tI tS tR : TypeId} {fs : Array Field} {v : Value} {d : DataW H} {p : List MemPlace} {held : Bool} (ht : P.underlying t = some (.struct fs)) (hcells : P.cellsOf t = 6) (hI : P.underlying tI = some (.int .i64)) (hcI : P.cellsOf tI = 1) (hS : P.underlying tS = some (.slice tI)) (hcS : P.cellsOf tS = 1) (hR : P.underlying tR = some (.slice tS)) (hcR : P.cellsOf tR = 1)
  (hf : ∃ f0 f1 f2 f3 f4 f5 : Field, fs = #[f0, f1, f2, f3, f4, f5] ∧ (f0.type = tI ∧ f1.type = tI ∧ f2.type = tI ∧ f3.type = tS ∧ f4.type = tS ∧ f5.type = tR) ∧ f0.offset = 0 ∧ f1.offset = 1 ∧ f2.offset = 2 ∧ f3.offset = 3 ∧ f4.offset = 4 ∧ f5.offset = 5)
  (hv : Value.okWide P w r b0 t v) (h : DataW.Trod enc P w 0 (fun _ => true) held t v d p) : ∃ i : Ins, InsV w v i ∧ wfI i := by
 simp only [Value.okWide, ht] at hv
 obtain ⟨cs, rfl, hsz, -⟩ := hv
 obtain ⟨fuel, hfu⟩ := h
 obtain ⟨f0, f1, f2, f3, f4, f5, rfl, ⟨t0, t1, t2, t3, t4, t5⟩, o0, o1, o2, o3, o4, o5⟩ := hf
 obtain ⟨xs, k, -, -, hlen, hxl, hfd⟩ := DataW.trod_struct ht hfu
 rw [hcells] at hlen hsz
 obtain ⟨c0, c1, c2, c3, c4, c5, rfl⟩ : ∃ c0 c1 c2 c3 c4 c5, cs = #[c0, c1, c2, c3, c4, c5] := by
  match cs, hsz with
  | ⟨[c0, c1, c2, c3, c4, c5]⟩, _ => exact ⟨c0, c1, c2, c3, c4, c5, rfl⟩
 have hx : ∀ j, j < 6 → ∃ y, xs[j]? = some y := fun j hj => ⟨xs[j]'(by rw [hxl]; exact hj), List.getElem?_eq_getElem _⟩
 have g : ∀ (j : Nat) (f : Field) (tt : TypeId) (c : Value), (#[f0, f1, f2, f3, f4, f5] : Array Field)[j]? = some f → j < 6 → f.type = tt → f.offset = j → P.cellsOf tt = 1 → (([c0, c1, c2, c3, c4, c5] : List Value).drop j).take 1 = [c] → ∃ y, DataW.trod enc P w 0 (fun _ => true) held k tt [c] = some y := by
  intro j f tt c h1 hj h2 h3 h4 h5
  have := hfd j f h1
  rw [h2, h3, h4] at this
  obtain ⟨y, hy⟩ := hx j hj
  refine ⟨y, ?_⟩
  rw [← hy, ← this, ← h5]
  rfl
 obtain ⟨y0, g0⟩ := g 0 f0 tI c0 rfl (by omega) t0 o0 hcI rfl
 obtain ⟨y1, g1⟩ := g 1 f1 tI c1 rfl (by omega) t1 o1 hcI rfl
 obtain ⟨y2, g2⟩ := g 2 f2 tI c2 rfl (by omega) t2 o2 hcI rfl
 obtain ⟨y3, g3⟩ := g 3 f3 tS c3 rfl (by omega) t3 o3 hcS rfl
 obtain ⟨y4, g4⟩ := g 4 f4 tS c4 rfl (by omega) t4 o4 hcS rfl
 obtain ⟨y5, g5⟩ := g 5 f5 tR c5 rfl (by omega) t5 o5 hcR rfl
 obtain ⟨n0, e0, -, w0⟩ := DataW.trod_int hI g0
 obtain ⟨n1, e1, -, w1⟩ := DataW.trod_int hI g1
 obtain ⟨n2, e2, -, w2⟩ := DataW.trod_int hI g2
 obtain ⟨u3, l3, e3, s3, w3⟩ := trod_ints hS hI hcI g3
 obtain ⟨u4, l4, e4, s4, w4⟩ := trod_ints hS hI hcI g4
 obtain ⟨u5, R, e5, s5, w5⟩ := trod_rows hR hS hcS hI hcI g5
 cases e0
 cases e1
 cases e2
 cases e3
 cases e4
 cases e5
 exact ⟨⟨n0, n1, n2, l3, l4, R⟩, ⟨_, _, _, rfl, s3, s4, s5⟩, w0, w1, w2, w3, w4, w5⟩
end
end Go.Proofs.Ytnikajkklocncaa
