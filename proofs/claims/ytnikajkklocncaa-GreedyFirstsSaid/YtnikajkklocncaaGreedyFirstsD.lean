/-
  GreedyFirsts, part 4 of 4: what the code computes, and plain laws; no condition beside those that each theorem tells.
-/
import Derived.Test.YtnikajkklocncaaGreedyFirstsC
import Derived.OpenShut
import Derived.ProofKit
import Derived.Deep.Slices
namespace Go.Proofs.Ytnikajkklocncaa
open Go.RowKit
theorem bdI_nn {X : List Int} (h : ∀ z, 0 ≤ X.getD z 0 ∧ X.getD z 0 ≤ 2147483647) : bdI X := fun z => ⟨by have := h z; omega, by have := h z; omega⟩
theorem noNeg {X : List Int} (h : ∀ z, 0 ≤ X.getD z 0 ∧ X.getD z 0 ≤ 2147483647) : hasNeg X = false := hasNeg_no (fun j _ => (h j).1)
theorem knp_good {i : Ins} (hF : InF i) (hk : i.kind = 1) : ¬ badQ i.vl i.wt := fun h => by
  have h1 := hF.wt
  have h2 := hF.vl
  have h3 := hF.n64
  rw [if_pos hk] at h1 h2
  rcases h with ((g | g) | g) | g
  · omega
  · omega
  · rw [noNeg hF.vlr] at g; cases g
  · rw [noNeg hF.wtr] at g; cases g
def frI (i : Ins) : List Int := if chk i ≠ 0 then [] else if i.kind = 1 then knS i else rwA i (i.n.toNat - frm i)
theorem frI_no {i : Ins} (h : ¬ chk i = 0) : frI i = [] := if_pos h
theorem frI_kn {i : Ins} (h : chk i = 0) (hk : i.kind = 1) : frI i = knS i := by unfold frI; rw [if_neg (not_not_intro h), if_pos hk]
theorem frI_rw {i : Ins} (h : chk i = 0) (hk : ¬ i.kind = 1) : frI i = rwA i (i.n.toNat - frm i) := by unfold frI; rw [if_neg (not_not_intro h), if_neg hk]
theorem frI_cost {i : Ins} (h : chk i = 0) : (costI i (frI i)).2 = 0 := by
  have hF := chk_inF h
  by_cases hk : i.kind = 1
  · rw [frI_kn h hk, costI_kn h hk]; exact knS_ok hF hk
  · rw [frI_rw h hk, costI_or h hk, if_neg (not_not_intro (rwA_ord hF))]
def usOK (x : List Int) (n : Nat) (U : List Bool) : Prop := U.length = n ∧ ∀ c, c < n → U.getD c false = decide ((c : Int) ∈ x)
theorem us_nil (n : Nat) : usOK [] n (List.replicate n false) := ⟨List.length_replicate, fun c hc => by rw [List.getD_eq_getElem?_getD, List.getElem?_replicate, if_pos hc]; simp⟩
theorem us_add {x : List Int} {n q : Nat} {U : List Bool} (h : usOK x n U) (hq : q < n) : usOK (x ++ [(q : Int)]) n (U.set q true) := by
  refine ⟨by rw [List.length_set]; exact h.1, fun c hc => ?_⟩
  rw [List.getD_eq_getElem?_getD, List.getElem?_set]
  by_cases e : q = c
  · subst e; rw [if_pos rfl, if_pos (by rw [h.1]; exact hc)]; simp
  · rw [if_neg e, ← List.getD_eq_getElem?_getD, h.2 c hc]
    refine decide_eq_decide.2 ⟨fun g => List.mem_append_left _ g, fun g => ?_⟩
    rcases List.mem_append.1 g with g | g
    · exact g
    · have := List.mem_singleton.1 g; omega
theorem us_zero {n : Nat} (hn : 1 ≤ n) : usOK [0] n ((List.replicate n false).set 0 true) := us_add (us_nil n) hn
theorem rowLn {i : Ins} (hF : InF i) (hk : i.kind ≠ 1) {r : Nat} (h : r < i.n.toNat) : (i.cost.getD r []).length = i.n.toNat := by
  have hc := hF.cost
  rw [if_neg hk] at hc
  exact hF.row r (by omega)
theorem ratioK (i : Ins) (ax3 : Option Addr) (cx3 : Nat) (ax4 : Option Addr) (cx4 : Nat) (ax5 : Option Addr) (cx5 : Nat) (l : List Int) (hl : byQ i.vl i.wt = l) (hF : InF i) (hk1 : i.kind = 1) (w : World) (h4 : IntSl w (.slice ax4 i.vl.length cx4) i.vl) (h3 : IntSl w (.slice ax3 i.wt.length cx3) i.wt) :
    Calls Try.prog 71 #[.slice ax4 i.vl.length cx4, .slice ax3 i.wt.length cx3] w fun e w' => ∃ a c, e = .returned (.tuple #[.slice a l.length c, .int .i64 0]) ∧ IntSl w' (.slice a l.length c) l ∧ frs w.heap.size a ∧ Below w.heap.size w w' := by
  have h := byratioF ax4 i.vl cx4 ax3 i.wt cx3 (bdI_nn hF.vlr) (bdI_nn hF.wtr) w h4 h3
  have hb := knp_good hF hk1
  rw [show qL i.vl i.wt = byQ i.vl i.wt from if_neg hb, show qE i.vl i.wt = 0 from if_neg hb, hl] at h
  exact h
theorem rratioK (i : Ins) (ax3 : Option Addr) (cx3 : Nat) (ax4 : Option Addr) (cx4 : Nat) (ax5 : Option Addr) (cx5 : Nat) (l : List Int) (hl : byQ i.vl i.wt = l) (hF : InF i) (hk1 : i.kind = 1) (w : World) (h4 : IntSl w (.slice ax4 i.vl.length cx4) i.vl) (h3 : IntSl w (.slice ax3 i.wt.length cx3) i.wt) :
    Calls Try.prog 65 #[.slice ax4 i.vl.length cx4, .slice ax3 i.wt.length cx3] w fun e w' => ∃ a c, e = .returned (.tuple #[.slice a l.length c, .int .i64 0]) ∧ IntSl w' (.slice a l.length c) l ∧ frs w.heap.size a ∧ Below w.heap.size w w' := by
  have h := rbyratioF ax4 i.vl cx4 ax3 i.wt cx3 (bdI_nn hF.vlr) (bdI_nn hF.wtr) w h4 h3
  have hb := knp_good hF hk1
  rw [show qL i.vl i.wt = byQ i.vl i.wt from if_neg hb, show qE i.vl i.wt = 0 from if_neg hb, hl] at h
  exact h
set_option maxRecDepth 100000 in
set_option maxHeartbeats 400000 in
theorem fill10 (i : Ins) (ax3 : Option Addr) (cx3 : Nat) (ax4 : Option Addr) (cx4 : Nat) (ax5 : Option Addr) (cx5 : Nat) (hF : InF i) (hk1 : i.kind = 1) (w : World) (hx3 : IntSl w (.slice ax3 i.wt.length cx3) i.wt) (hx4 : IntSl w (.slice ax4 i.vl.length cx4) i.vl) (hx5 : RowsV w (.slice ax5 i.cost.length cx5) i.cost) :
  Calls Try.prog 62 #[.agg #[.int .i64 i.kind, .int .i64 i.n, .int .i64 i.cap, .slice ax3 i.wt.length cx3, .slice ax4 i.vl.length cx4, .slice ax5 i.cost.length cx5]] w fun e w' => ∃ a c, e = .returned (.tuple #[.slice a ((flS i (byQ i.vl i.wt) i.n.toNat).1).length c, .int .i64 ((flS i (byQ i.vl i.wt) i.n.toNat).2.2)]) ∧ IntSl w' (.slice a ((flS i (byQ i.vl i.wt) i.n.toNat).1).length c) ((flS i (byQ i.vl i.wt) i.n.toNat).1) ∧ Below w.heap.size w w' := by
 have hbs := Below.refl (B := w.heap.size) w
 have f1 := hF.n1
 have f3 := hF.n64
 have f5 := hF.wt
 have f6 := hF.vl
 have f8 := hF.cap
 rw [if_pos hk1] at f5 f6
 have hwr := hF.wtr
 have hvr := hF.vlr
 have hal := alI_bd i
 have hrp : (List.replicate i.n.toNat (0 : Int)).length = i.n.toNat := List.length_replicate
 have hM := Mem.start w
 refine Calls.of_ends (vs := [.agg #[.int .i64 i.kind, .int .i64 i.n, .int .i64 i.cap, .slice ax3 i.wt.length cx3, .slice ax4 i.vl.length cx4, .slice ax5 i.cost.length cx5]]) Try.func62 rfl Try.ntmps62 rfl ?_
 intro a hA
 replace hA : St 57 [(0, _)] a := hA
 refine Ends.seq (Ends.region ?_)
 refine S.box hA hM rfl rfl ?_; clear hA hM a; intro b1 w1 hb2 hM a hA
 replace hM : Mem _ _ [pt b1 #[.int .i64 i.kind, .int .i64 i.n, .int .i64 i.cap, .slice ax3 i.wt.length cx3, .slice ax4 i.vl.length cx4, .slice ax5 i.cost.length cx5] 25] _ := hM
 refine S.val hA (R.assign rfl) rfl ?_; clear hA a; intro a hA
 refine S.val hA (R.assign rfl) rfl ?_; clear hA a; intro a hA
 refine S.done ?_
 refine Ends.seq (Ends.region ?_)
 refine S.val hA (R.fieldAddr (q := 1) fi25_1 rfl rfl rfl) rfl ?_; clear hA a; intro a hA
 refine S.val hA (R.load sz3 rfl (hM.cell (k := 0) rfl rfl)) rfl ?_; clear hA a; intro a hA
 refine S.make hA hM Try.underlying22 info3 rfl rfl rfl (by omega) (by show (8 : Int) * _ ≤ _; omega) (by omega) rfl ?_; clear hA hM a; intro b3 w2 hb4 hM a hA
 replace hM : Mem _ _ [pt b3 (madeCells #[.int .i64 0] (i.n.toNat * 1)) 3, pt b1 #[.int .i64 i.kind, .int .i64 i.n, .int .i64 i.cap, .slice ax3 i.wt.length cx3, .slice ax4 i.vl.length cx4, .slice ax5 i.cost.length cx5] 25] _ := hM
 rw [Nat.mul_one, made_ints] at hM
 replace hM : Mem _ _ [pt b3 ((ints (List.replicate i.n.toNat 0))) 3, pt b1 #[.int .i64 i.kind, .int .i64 i.n, .int .i64 i.cap, .slice ax3 i.wt.length cx3, .slice ax4 i.vl.length cx4, .slice ax5 i.cost.length cx5] 25] _ := hM
 refine S.val hA (R.assign rfl) rfl ?_; clear hA a; intro a hA
 refine S.done ?_
 replace hA : St 57 [(1, _), (4, _)] a := hA.sub ((.cons rfl (.cons rfl .nil)))
 refine Ends.seq (Ends.region ?_)
 refine S.val hA (R.fieldAddr (q := 4) fi25_4 rfl rfl rfl) rfl ?_; clear hA a; intro a hA
 refine S.val hA (R.load sz22 rfl (hM.cell (k := 1) rfl rfl)) rfl ?_; clear hA a; intro a hA
 refine S.val hA (R.fieldAddr (q := 3) fi25_3 rfl rfl rfl) rfl ?_; clear hA a; intro a hA
 refine S.val hA (R.load sz22 rfl (hM.cell (k := 1) rfl rfl)) rfl ?_; clear hA a; intro a hA
 obtain ⟨l, hl⟩ : ∃ l, byQ i.vl i.wt = l := ⟨_, rfl⟩
 have hll : l.length = i.n.toNat := by rw [← hl, byQ_len]; exact f6
 have hlat : ∀ m, m < i.n.toNat → 0 ≤ l.getD m 0 ∧ l.getD m 0 < (i.n.toNat : Int) := fun m hm => by rw [← hl]; have := byQ_at (v := i.vl) (w := i.wt) (m := m) (by omega); omega
 refine S.call hA (R.callF Try.func71 rfl rfl rfl) rfl (ratioK i ax3 cx3 ax4 cx4 ax5 cx5 l hl hF hk1 _ (hx4.mem hM) (hx3.mem hM)) ?_; clear hA a
 rintro e w3 ⟨la, lc, rfl, hli, hlf, hb⟩
 replace hM : Mem _ _ [rd la lc l, pt b3 ((ints (List.replicate i.n.toNat 0))) 3, pt b1 #[.int .i64 i.kind, .int .i64 i.n, .int .i64 i.cap, .slice ax3 i.wt.length cx3, .slice ax4 i.vl.length cx4, .slice ax5 i.cost.length cx5] 25] _ := hM.callRd hb hli hlf; clear hb
 refine ⟨.tuple #[.slice la l.length lc, .int .i64 0], rfl, fun a hA => ?_⟩
 refine S.val hA (R.move rfl) rfl ?_; clear hA a; intro a hA
 refine S.val hA (R.extract (v := .slice la l.length lc) rfl rfl) rfl ?_; clear hA a; intro a hA
 refine S.val hA (R.extract (v := .int .i64 0) rfl rfl) rfl ?_; clear hA a; intro a hA
 refine S.val hA (R.assign rfl) rfl ?_; clear hA a; intro a hA
 refine S.val hA (R.assign rfl) rfl ?_; clear hA a; intro a hA
 refine S.done ?_
 replace hA : St 57 [(1, _), (4, _), (5, _)] a := hA.sub ((.cons rfl (.cons rfl (.cons rfl .nil))))
 refine Ends.seq (Ends.region ?_)
 refine S.val hA (R.fieldAddr (q := 2) fi25_2 rfl rfl rfl) rfl ?_; clear hA a; intro a hA
 refine S.val hA (R.load sz3 rfl (hM.cell (k := 2) rfl rfl)) rfl ?_; clear hA a; intro a hA
 refine S.val hA (R.to (v := .int .i64 ((flS i l 0).2.1)) (R.assign rfl) (rfl)) rfl ?_; clear hA a; intro a hA
 refine S.val hA (R.to (v := .int .i64 ((flS i l 0).2.2)) (R.assign rfl) (rfl)) rfl ?_; clear hA a; intro a hA
 refine S.done ?_
 refine Ends.seq (Ends.seq (Ends.region ?_))
 refine S.val hA (R.move rfl) rfl ?_; clear hA a; intro a hA
 refine S.val hA (R.lenS Try.underlying22 rfl rfl) rfl ?_; clear hA a; intro a hA
 refine S.val hA (R.move rfl) rfl ?_; clear hA a; intro a hA
 refine S.done ?_
 refine Ends.block ?_
 replace hM : Mem _ _ [rd la lc l, pt b3 ((ints (flS i l 0).1)) 3, pt b1 #[.int .i64 i.kind, .int .i64 i.n, .int .i64 i.cap, .slice ax3 i.wt.length cx3, .slice ax4 i.vl.length cx4, .slice ax5 i.cost.length cx5] 25] _ := hM
 refine Ends.loop (σ := Nat) (fun m (a : Act) (wv : World) => St 57 [(1, .pointer (some ⟨b1, 0, none⟩)), (4, .slice (some ⟨b3, 0, none⟩) i.n.toNat i.n.toNat), (7, .int .i64 ((flS i l m).2.1)), (8, .int .i64 ((flS i l m).2.2)), (24, .slice la l.length lc), (25, .int .i64 ((l.length : Int))), (26, .int .i64 ((m : Int)))] a ∧ Mem w nof [rd la lc l, pt b3 ((ints (flS i l m).1)) 3, pt b1 #[.int .i64 i.kind, .int .i64 i.n, .int .i64 i.cap, .slice ax3 i.wt.length cx3, .slice ax4 i.vl.length cx4, .slice ax5 i.cost.length cx5] 25] wv ∧ (m ≤ i.n.toNat)) (fun m => i.n.toNat - m) 0 ⟨hA.sub ((.cons rfl (.cons rfl (.cons rfl (.cons rfl (.cons rfl (.cons rfl (.cons rfl .nil)))))))), hM, (Nat.zero_le _)⟩ ?_
 clear hA hM a
 rintro m a w4 ⟨hA, hM, hm⟩ hNext
 refine Ends.seq (Ends.region ?_)
 refine S.val hA (R.lss rfl rfl) rfl ?_; clear hA a; intro a hA
 refine S.done ?_
 refine Ends.seq ?_
 refine Ends.ite hA rfl (fun hc5 => ?_) (fun hc5 => ?_)
 ·
  have hla := hlat m (by omega)
  have hfl := flS_len i l m
  have hfr := flS_room hF l m
  have hfw := flS_worth hF l m
  have hwa := hwr (l.getD m 0).toNat
  have hva := hvr (l.getD m 0).toNat
  refine Ends.skip (Ends.seq (Ends.block (Ends.seq (Ends.region ?_))))
  refine S.val hA (R.idxI (hM.rd (k := 0) rfl) (j := m) sl22 rfl rfl (by omega) (rfl)) rfl ?_; clear hA a; intro a hA
  refine S.val hA (R.loadI (hM.rd (k := 0) rfl) sz3 rfl (by omega)) rfl ?_; clear hA a; intro a hA
  refine S.val hA (R.assign rfl) rfl ?_; clear hA a; intro a hA
  refine S.done ?_
  refine Ends.seq (Ends.region ?_)
  refine S.val hA (R.fieldAddr (q := 3) fi25_3 rfl rfl rfl) rfl ?_; clear hA a; intro a hA
  refine S.val hA (R.load sz22 rfl (hM.cell (k := 2) rfl rfl)) rfl ?_; clear hA a; intro a hA
  refine S.val hA (R.move rfl) rfl ?_; clear hA a; intro a hA
  refine S.val hA (R.idxI hx3 (j := (l.getD m 0).toNat) sl22 rfl rfl (by omega) (rfl)) rfl ?_; clear hA a; intro a hA
  refine S.val hA (R.loadI (hx3.mem hM) sz3 rfl (by omega)) rfl ?_; clear hA a; intro a hA
  refine S.val hA (R.move rfl) rfl ?_; clear hA a; intro a hA
  refine S.val hA (R.leq rfl rfl) rfl ?_; clear hA a; intro a hA
  refine S.done ?_
  replace hA : St 57 [(1, _), (4, _), (7, _), (8, _), (10, _), (24, _), (25, _), (26, _), (36, _)] a := hA.sub ((.cons rfl (.cons rfl (.cons rfl (.cons rfl (.cons rfl (.cons rfl (.cons rfl (.cons rfl (.cons rfl .nil))))))))))
  refine Ends.ite hA rfl (fun hc6 => ?_) (fun hc6 => ?_)
  ·
   refine Ends.seq (Ends.region ?_)
   refine S.val hA (R.move rfl) rfl ?_; clear hA a; intro a hA
   refine S.val hA (R.move rfl) rfl ?_; clear hA a; intro a hA
   refine S.val hA (R.indexAddr (q := (l.getD m 0).toNat) sl22 rfl rfl (by omega) (by omega)) rfl ?_; clear hA a; intro a hA
   refine S.store (k := 1) hA hM sz3 rfl rfl rfl rfl (ints_getD ((flS i l m).1) _ (by omega)) ?_; clear hM
   intro w5 hM
   rw [ints_set] at hM
   replace hM : Mem _ _ [rd la lc l, pt b3 ((ints (((flS i l m).1).set ((l.getD m 0).toNat) 1))) 3, pt b1 #[.int .i64 i.kind, .int .i64 i.n, .int .i64 i.cap, .slice ax3 i.wt.length cx3, .slice ax4 i.vl.length cx4, .slice ax5 i.cost.length cx5] 25] _ := hM
   refine S.done ?_
   replace hA : St 57 [(1, _), (4, _), (7, _), (8, _), (10, _), (24, _), (25, _), (26, _)] a := hA.sub ((.cons rfl (.cons rfl (.cons rfl (.cons rfl (.cons rfl (.cons rfl (.cons rfl (.cons rfl .nil)))))))))
   refine Ends.seq (Ends.region ?_)
   refine S.val hA (R.move rfl) rfl ?_; clear hA a; intro a hA
   refine S.val hA (R.fieldAddr (q := 3) fi25_3 rfl rfl rfl) rfl ?_; clear hA a; intro a hA
   refine S.val hA (R.load sz22 rfl (hM.cell (k := 2) rfl rfl)) rfl ?_; clear hA a; intro a hA
   refine S.val hA (R.move rfl) rfl ?_; clear hA a; intro a hA
   refine S.val hA (R.idxI hx3 (j := (l.getD m 0).toNat) sl22 rfl rfl (by omega) (rfl)) rfl ?_; clear hA a; intro a hA
   refine S.val hA (R.loadI (hx3.mem hM) sz3 rfl (by omega)) rfl ?_; clear hA a; intro a hA
   refine S.val hA (R.subI rfl rfl (r := ((flS i l m).2.1) - (i.wt.getD ((l.getD m 0).toNat) 0)) rfl (by omega)) rfl ?_; clear hA a; intro a hA
   refine S.val hA (R.assign rfl) rfl ?_; clear hA a; intro a hA
   refine S.done ?_
   replace hA : St 57 [(1, _), (4, _), (7, _), (8, _), (10, _), (24, _), (25, _), (26, _)] a := hA.sub ((.cons rfl (.cons rfl (.cons rfl (.cons rfl (.cons rfl (.cons rfl (.cons rfl (.cons rfl .nil)))))))))
   refine Ends.region ?_
   refine S.val hA (R.move rfl) rfl ?_; clear hA a; intro a hA
   refine S.val hA (R.fieldAddr (q := 4) fi25_4 rfl rfl rfl) rfl ?_; clear hA a; intro a hA
   refine S.val hA (R.load sz22 rfl (hM.cell (k := 2) rfl rfl)) rfl ?_; clear hA a; intro a hA
   refine S.val hA (R.move rfl) rfl ?_; clear hA a; intro a hA
   refine S.val hA (R.idxI hx4 (j := (l.getD m 0).toNat) sl22 rfl rfl (by omega) (rfl)) rfl ?_; clear hA a; intro a hA
   refine S.val hA (R.loadI (hx4.mem hM) sz3 rfl (by omega)) rfl ?_; clear hA a; intro a hA
   refine S.val hA (R.addI rfl rfl (r := ((flS i l m).2.2) + (i.vl.getD ((l.getD m 0).toNat) 0)) rfl (by omega)) rfl ?_; clear hA a; intro a hA
   refine S.val hA (R.assign rfl) rfl ?_; clear hA a; intro a hA
   refine S.done ?_
   replace hA : St 57 [(1, _), (4, _), (7, _), (8, _), (24, _), (25, _), (26, _)] a := hA.sub ((.cons rfl (.cons rfl (.cons rfl (.cons rfl (.cons rfl (.cons rfl (.cons rfl .nil))))))))
   refine Ends.inBlock (Ends.region ?_)
   refine S.val hA (R.addI rfl rfl (r := ((m : Int)) + 1) rfl (by omega)) rfl ?_; clear hA a; intro a hA
   refine S.val hA (R.move rfl) rfl ?_; clear hA a; intro a hA
   refine S.done ?_
   have hs9 := flS_take hc6
   rw [show (flS i l m).1.set (l.getD m 0).toNat 1 = (flS i l (m + 1)).1 by rw [hs9]] at hM
   rw [show (flS i l m).2.1 - i.wt.getD (l.getD m 0).toNat 0 = (flS i l (m + 1)).2.1 by rw [hs9], show (flS i l m).2.2 + i.vl.getD (l.getD m 0).toNat 0 = (flS i l (m + 1)).2.2 by rw [hs9]] at hA
   replace hM : Mem _ _ [rd la lc l, pt b3 ((ints (flS i l (m + 1)).1)) 3, pt b1 #[.int .i64 i.kind, .int .i64 i.n, .int .i64 i.cap, .slice ax3 i.wt.length cx3, .slice ax4 i.vl.length cx4, .slice ax5 i.cost.length cx5] 25] _ := hM
   exact hNext ((m + 1)) _ _ ((by show i.n.toNat - (m + 1) < i.n.toNat - m; omega)) ⟨hA.sub ((.cons rfl (.cons rfl (.cons rfl (.cons rfl (.cons rfl (.cons rfl (.cons rfl .nil)))))))), hM, (by omega)⟩
  ·
   refine Ends.skip (Ends.inBlock (Ends.region ?_))
   refine S.val hA (R.addI rfl rfl (r := ((m : Int)) + 1) rfl (by omega)) rfl ?_; clear hA a; intro a hA
   refine S.val hA (R.move rfl) rfl ?_; clear hA a; intro a hA
   refine S.done ?_
   have hs9 := flS_leave hc6
   rw [← hs9] at hM hA
   replace hM : Mem _ _ [rd la lc l, pt b3 ((ints (flS i l (m + 1)).1)) 3, pt b1 #[.int .i64 i.kind, .int .i64 i.n, .int .i64 i.cap, .slice ax3 i.wt.length cx3, .slice ax4 i.vl.length cx4, .slice ax5 i.cost.length cx5] 25] _ := hM
   exact hNext ((m + 1)) _ _ ((by show i.n.toNat - (m + 1) < i.n.toNat - m; omega)) ⟨hA.sub ((.cons rfl (.cons rfl (.cons rfl (.cons rfl (.cons rfl (.cons rfl (.cons rfl .nil)))))))), hM, (by omega)⟩
 ·
  have hme : m = i.n.toNat := by omega
  refine Ends.exit rfl ?_
  replace hA : St 57 [(4, _), (8, _)] a := hA.sub ((.cons rfl (.cons rfl .nil)))
  refine Ends.seq (Ends.region ?_)
  refine S.val hA (R.move rfl) rfl ?_; clear hA a; intro a hA
  refine S.val hA (R.move rfl) rfl ?_; clear hA a; intro a hA
  refine S.val hA (R.assign rfl) rfl ?_; clear hA a; intro a hA
  refine S.val hA (R.assign rfl) rfl ?_; clear hA a; intro a hA
  refine S.done ?_
  replace hA : St 57 [(2, _), (3, _)] a := hA.sub ((.cons rfl (.cons rfl .nil)))
  refine Ends.ret2 Try.func62 Try.results62 hA rfl rfl ?_
  subst hl
  rw [hme] at hM ⊢
  have hfl := flS_len i (byQ i.vl i.wt) i.n.toNat
  have hr := hM.ptRs (k := 1) (X := (flS i (byQ i.vl i.wt) i.n.toNat).1) rfl (by omega)
  rw [hfl] at hr
  exact ⟨_, _, by rw [hfl], by rw [hfl]; exact hr, Mem.trans0 hbs hM.nilL⟩
set_option maxRecDepth 100000 in
set_option maxHeartbeats 400000 in
theorem alone10 (i : Ins) (ax3 : Option Addr) (cx3 : Nat) (ax4 : Option Addr) (cx4 : Nat) (ax5 : Option Addr) (cx5 : Nat) (hF : InF i) (hk1 : i.kind = 1) (w : World) (hx3 : IntSl w (.slice ax3 i.wt.length cx3) i.wt) (hx4 : IntSl w (.slice ax4 i.vl.length cx4) i.vl) (hx5 : RowsV w (.slice ax5 i.cost.length cx5) i.cost) :
  Calls Try.prog 63 #[.agg #[.int .i64 i.kind, .int .i64 i.n, .int .i64 i.cap, .slice ax3 i.wt.length cx3, .slice ax4 i.vl.length cx4, .slice ax5 i.cost.length cx5]] w fun e w' => e = .returned (.int .i64 (alI i i.n.toNat)) ∧ Below w.heap.size w w' := by
 have hbs := Below.refl (B := w.heap.size) w
 have f1 := hF.n1
 have f3 := hF.n64
 have f5 := hF.wt
 have f6 := hF.vl
 have f8 := hF.cap
 rw [if_pos hk1] at f5 f6
 have hwr := hF.wtr
 have hvr := hF.vlr
 have hal := alI_bd i
 have hrp : (List.replicate i.n.toNat (0 : Int)).length = i.n.toNat := List.length_replicate
 have hM := Mem.start w
 refine Calls.of_ends (vs := [.agg #[.int .i64 i.kind, .int .i64 i.n, .int .i64 i.cap, .slice ax3 i.wt.length cx3, .slice ax4 i.vl.length cx4, .slice ax5 i.cost.length cx5]]) Try.func63 rfl Try.ntmps63 rfl ?_
 intro a hA
 replace hA : St 38 [(0, _)] a := hA
 refine Ends.seq (Ends.region ?_)
 refine S.box hA hM rfl rfl ?_; clear hA hM a; intro b1 w1 hb2 hM a hA
 replace hM : Mem _ _ [pt b1 #[.int .i64 i.kind, .int .i64 i.n, .int .i64 i.cap, .slice ax3 i.wt.length cx3, .slice ax4 i.vl.length cx4, .slice ax5 i.cost.length cx5] 25] _ := hM
 refine S.val hA (R.assign rfl) rfl ?_; clear hA a; intro a hA
 refine S.done ?_
 refine Ends.seq (Ends.region ?_)
 refine S.val hA (R.to (v := .int .i64 (alI i 0)) (R.assign rfl) (rfl)) rfl ?_; clear hA a; intro a hA
 refine S.done ?_
 refine Ends.seq (Ends.seq (Ends.region ?_))
 refine S.val hA (R.fieldAddr (q := 3) fi25_3 rfl rfl rfl) rfl ?_; clear hA a; intro a hA
 refine S.val hA (R.load sz22 rfl (hM.cell (k := 0) rfl rfl)) rfl ?_; clear hA a; intro a hA
 refine S.val hA (R.lenS Try.underlying22 rfl rfl) rfl ?_; clear hA a; intro a hA
 refine S.val hA (R.move rfl) rfl ?_; clear hA a; intro a hA
 refine S.done ?_
 refine Ends.block ?_
 refine Ends.loop (σ := Nat) (fun k (a : Act) (wv : World) => St 38 [(1, .pointer (some ⟨b1, 0, none⟩)), (3, .int .i64 (alI i k)), (7, .slice ax3 i.wt.length cx3), (8, .int .i64 ((i.wt.length : Int))), (9, .int .i64 ((k : Int)))] a ∧ Mem w nof [pt b1 #[.int .i64 i.kind, .int .i64 i.n, .int .i64 i.cap, .slice ax3 i.wt.length cx3, .slice ax4 i.vl.length cx4, .slice ax5 i.cost.length cx5] 25] wv ∧ (k ≤ i.wt.length)) (fun k => i.wt.length - k) 0 ⟨hA.sub ((.cons rfl (.cons rfl (.cons rfl (.cons rfl (.cons rfl .nil)))))), hM, (Nat.zero_le _)⟩ ?_
 clear hA hM a
 rintro k a w2 ⟨hA, hM, hk⟩ hNext
 refine Ends.seq (Ends.region ?_)
 refine S.val hA (R.lss rfl rfl) rfl ?_; clear hA a; intro a hA
 refine S.done ?_
 refine Ends.seq ?_
 refine Ends.ite hA rfl (fun hc3 => ?_) (fun hc3 => ?_)
 ·
  have hab := hal k
  refine Ends.skip (Ends.seq (Ends.block (Ends.seq (Ends.region ?_))))
  refine S.val hA (R.move rfl) rfl ?_; clear hA a; intro a hA
  refine S.val hA (R.idxI hx3 (j := k) sl22 rfl rfl (by omega) (rfl)) rfl ?_; clear hA a; intro a hA
  refine S.val hA (R.loadI (hx3.mem hM) sz3 rfl (by omega)) rfl ?_; clear hA a; intro a hA
  refine S.val hA (R.assign rfl) rfl ?_; clear hA a; intro a hA
  refine S.val hA (R.assign rfl) rfl ?_; clear hA a; intro a hA
  refine S.done ?_
  replace hA : St 38 [(1, _), (3, _), (4, _), (5, _), (7, _), (8, _), (9, _)] a := hA.sub ((.cons rfl (.cons rfl (.cons rfl (.cons rfl (.cons rfl (.cons rfl (.cons rfl .nil))))))))
  refine Ends.seq ?_
  refine Ends.cut (fun (a : Act) (wv : World) => St 38 [(1, .pointer (some ⟨b1, 0, none⟩)), (3, .int .i64 (alI i k)), (4, .int .i64 ((k : Int))), (7, .slice ax3 i.wt.length cx3), (8, .int .i64 ((i.wt.length : Int))), (9, .int .i64 ((k : Int))), (34, .bool (decide (((i.wt.getD k 0) ≤ i.cap ∧ ((alI i k) < 0 ∨ (i.vl.getD ((alI i k).toNat) 0) < (i.vl.getD k 0))))))] a ∧ Mem w nof [pt b1 #[.int .i64 i.kind, .int .i64 i.n, .int .i64 i.cap, .slice ax3 i.wt.length cx3, .slice ax4 i.vl.length cx4, .slice ax5 i.cost.length cx5] 25] wv) ?_ (fun k2 hJ => ?_)
  ·
   clear hA hM a; rintro a w3 ⟨hA, hM⟩
   refine Ends.ite hA rfl (fun hc4 => ?_) (fun hc4 => ?_)
   ·
    have hs9 : alI i (k + 1) = (k : Int) := by rw [alI]; exact if_pos hc4
    refine Ends.region ?_
    refine S.val hA (R.move rfl) rfl ?_; clear hA a; intro a hA
    refine S.val hA (R.to (v := .int .i64 (alI i (k + 1))) (R.assign rfl) (congrArg (Value.int .i64) hs9.symm)) rfl ?_; clear hA a; intro a hA
    refine S.done ?_
    refine Ends.inBlock (Ends.region ?_)
    refine S.val hA (R.addI rfl rfl (r := ((k : Int)) + 1) rfl (by omega)) rfl ?_; clear hA a; intro a hA
    refine S.val hA (R.move rfl) rfl ?_; clear hA a; intro a hA
    refine S.done ?_
    replace hA : St 38 [(1, _), (3, _), (7, _), (8, _), (9, _)] a := hA.sub ((.cons rfl (.cons rfl (.cons rfl (.cons rfl (.cons rfl .nil))))))
    exact hNext ((k + 1)) _ _ ((by show i.wt.length - (k + 1) < i.wt.length - k; omega)) ⟨hA.sub ((.cons rfl (.cons rfl (.cons rfl (.cons rfl (.cons rfl .nil)))))), hM, (by omega)⟩
   ·
    have hs9 : alI i (k + 1) = alI i k := by rw [alI]; exact if_neg hc4
    refine Ends.skip (Ends.inBlock (Ends.region ?_))
    refine S.val hA (R.addI rfl rfl (r := ((k : Int)) + 1) rfl (by omega)) rfl ?_; clear hA a; intro a hA
    refine S.val hA (R.move rfl) rfl ?_; clear hA a; intro a hA
    refine S.done ?_
    rw [← hs9] at hA
    exact hNext ((k + 1)) _ _ ((by show i.wt.length - (k + 1) < i.wt.length - k; omega)) ⟨hA.sub ((.cons rfl (.cons rfl (.cons rfl (.cons rfl (.cons rfl .nil)))))), hM, (by omega)⟩
  ·
   refine Ends.drawn (Mem w nof [pt b1 #[.int .i64 i.kind, .int .i64 i.n, .int .i64 i.cap, .slice ax3 i.wt.length cx3, .slice ax4 i.vl.length cx4, .slice ax5 i.cost.length cx5] 25]) (.cons (0, true) (.cons (1, true) (.cons (2, true) (.cons (3, true) (.cons (4, true) (.cons (5, true) (.cons (6, true) (.cons (7, true) (.cons (8, true) (.cons (9, true) (.cons (10, true) (.cons (11, true) (.cons (12, true) (.cons (13, true) (.cons (14, true) (.cons (15, true) (.cons (16, true) (.cons (17, true) (.cons (18, true) (.cons (19, true) (.cons (20, true) .nil))))))))))))))))))))) 21 mixed (by kernel_rfl) (by kernel_rfl) (by kernel_rfl) hM.drew ?_
   replace hM := hM.drew
   refine D.valF hA rfl (fun _ => R.move rfl) rfl ?_; clear hA a; intro a hA
   refine D.valF hA rfl (fun _ => R.fieldAddr (q := 2) fi25_2 rfl rfl rfl) rfl ?_; clear hA a; intro a hA
   refine D.val hA rfl (by kernel_rfl) (fun _ hM => R.load sz3 rfl (hM.cell (k := 0) rfl rfl)) rfl ?_; clear hA a; intro a hA
   refine D.valF hA rfl (fun _ => R.leq rfl rfl) rfl ?_; clear hA a; intro a hA
   refine D.valF hA rfl (fun _ => R.move rfl) rfl ?_; clear hA a; intro a hA
   refine hA.split (d := 18) rfl ?_ ?_
   ·
    clear hA; intro hg5 hA
    refine D.valgF (dj := 18) hA rfl (by kernel_rfl) rfl (fun _ => R.move rfl) rfl ?_; clear hA a; intro a hA
    refine D.valgF (dj := 18) hA rfl (by kernel_rfl) rfl (fun _ => R.lss rfl rfl) rfl ?_; clear hA a; intro a hA
    refine D.valgF (dj := 18) hA rfl (by kernel_rfl) rfl (fun _ => R.move rfl) rfl ?_; clear hA a; intro a hA
    refine hA.split (d := 21) rfl ?_ ?_
    ·
     clear hA; intro hg6 hA
     refine D.no (dj := 21) hA rfl (by kernel_rfl) rfl rfl rfl ?_; clear hA a; intro a hA
     refine D.no (dj := 21) hA rfl (by kernel_rfl) rfl rfl rfl ?_; clear hA a; intro a hA
     refine D.no (dj := 21) hA rfl (by kernel_rfl) rfl rfl rfl ?_; clear hA a; intro a hA
     refine D.no (dj := 21) hA rfl (by kernel_rfl) rfl rfl rfl ?_; clear hA a; intro a hA
     refine D.no (dj := 21) hA rfl (by kernel_rfl) rfl rfl rfl ?_; clear hA a; intro a hA
     refine D.no (dj := 21) hA rfl (by kernel_rfl) rfl rfl rfl ?_; clear hA a; intro a hA
     refine D.no (dj := 21) hA rfl (by kernel_rfl) rfl rfl rfl ?_; clear hA a; intro a hA
     refine D.no (dj := 21) hA rfl (by kernel_rfl) rfl rfl rfl ?_; clear hA a; intro a hA
     refine D.no (dj := 21) hA rfl (by kernel_rfl) rfl rfl rfl ?_; clear hA a; intro a hA
     refine D.no (dj := 21) hA rfl (by kernel_rfl) rfl rfl rfl ?_; clear hA a; intro a hA
     refine D.no (dj := 21) hA rfl (by kernel_rfl) rfl rfl rfl ?_; clear hA a; intro a hA
     refine D.valgF (dj := 18) hA rfl (by kernel_rfl) rfl (fun _ => R.pickT rfl rfl) rfl ?_; clear hA a; intro a hA
     refine D.valF hA rfl (fun _ => R.pickT rfl rfl) rfl ?_; clear hA a; intro a hA
     refine D.done ?_
     replace hA : St 38 [(1, _), (3, _), (4, _), (7, _), (8, _), (9, _), (34, _)] a := hA.sub ((.cons rfl (.cons rfl (.cons rfl (.cons rfl (.cons rfl (.cons rfl (.cons rfl .nil))))))))
     exact hJ _ _ ⟨hA.sub (.cons rfl (.cons rfl (.cons rfl (.cons rfl (.cons rfl (.cons rfl (.cons (by first | rfl | exact congrArg (fun b => some (Value.bool b)) (by first | exact decide_eq_decide.2 (by omega) | exact or_bool (by omega) | exact and_bool (by omega) | (simp; done) | (simp [hg5, hg6]; done) | (have h80 := hg5; (try simp at h80); have h81 := hg6; (try simp at h81); simp [h80, h81]; done) | exact (decide_eq_false (fun h9 => hg5 h9.1)).symm | exact (decide_eq_false (fun h9 => hg6 h9.1)).symm)) .nil))))))), hM⟩
    ·
     clear hA; intro hg6 hA
     refine D.valgF (dj := 21) hA rfl (by kernel_rfl) rfl (fun _ => R.fieldAddr (q := 4) fi25_4 rfl rfl rfl) rfl ?_; clear hA a; intro a hA
     refine D.valg (dj := 21) hA rfl (by kernel_rfl) (by kernel_rfl) rfl (fun _ hM => R.load sz22 rfl (hM.cell (k := 0) rfl rfl)) rfl ?_; clear hA a; intro a hA
     refine D.valgF (dj := 21) hA rfl (by kernel_rfl) rfl (fun _ => R.move rfl) rfl ?_; clear hA a; intro a hA
     refine D.valgF (dj := 21) hA rfl (by kernel_rfl) rfl (fun _ => R.idxI hx4 (j := k) sl22 rfl rfl (by omega) (rfl)) rfl ?_; clear hA a; intro a hA
     refine D.valg (dj := 21) hA rfl (by kernel_rfl) (by kernel_rfl) rfl (fun _ hM => R.loadI (hx4.mem hM) sz3 rfl (by omega)) rfl ?_; clear hA a; intro a hA
     refine D.valgF (dj := 21) hA rfl (by kernel_rfl) rfl (fun _ => R.fieldAddr (q := 4) fi25_4 rfl rfl rfl) rfl ?_; clear hA a; intro a hA
     refine D.valg (dj := 21) hA rfl (by kernel_rfl) (by kernel_rfl) rfl (fun _ hM => R.load sz22 rfl (hM.cell (k := 0) rfl rfl)) rfl ?_; clear hA a; intro a hA
     refine D.valgF (dj := 21) hA rfl (by kernel_rfl) rfl (fun _ => R.move rfl) rfl ?_; clear hA a; intro a hA
     refine D.valgF (dj := 21) hA rfl (by kernel_rfl) rfl (fun _ => R.idxI hx4 (j := (alI i k).toNat) sl22 rfl rfl (by omega) (rfl)) rfl ?_; clear hA a; intro a hA
     refine D.valg (dj := 21) hA rfl (by kernel_rfl) (by kernel_rfl) rfl (fun _ hM => R.loadI (hx4.mem hM) sz3 rfl (by omega)) rfl ?_; clear hA a; intro a hA
     refine D.valgF (dj := 21) hA rfl (by kernel_rfl) rfl (fun _ => R.gtr rfl rfl) rfl ?_; clear hA a; intro a hA
     refine D.valgF (dj := 18) hA rfl (by kernel_rfl) rfl (fun _ => R.pickF rfl rfl) rfl ?_; clear hA a; intro a hA
     refine D.valF hA rfl (fun _ => R.pickT rfl rfl) rfl ?_; clear hA a; intro a hA
     refine D.done ?_
     replace hA : St 38 [(1, _), (3, _), (4, _), (7, _), (8, _), (9, _), (34, _)] a := hA.sub ((.cons rfl (.cons rfl (.cons rfl (.cons rfl (.cons rfl (.cons rfl (.cons rfl .nil))))))))
     exact hJ _ _ ⟨hA.sub (.cons rfl (.cons rfl (.cons rfl (.cons rfl (.cons rfl (.cons rfl (.cons (by first | rfl | exact congrArg (fun b => some (Value.bool b)) (by first | exact decide_eq_decide.2 (by omega) | exact or_bool (by omega) | exact and_bool (by omega) | (simp; done) | (simp [hg5, hg6]; done) | (have h80 := hg5; (try simp at h80); have h81 := hg6; (try simp at h81); simp [h80, h81]; done) | exact (decide_eq_false (fun h9 => hg5 h9.1)).symm | exact (decide_eq_false (fun h9 => hg6 h9.1)).symm)) .nil))))))), hM⟩
   ·
    clear hA; intro hg5 hA
    refine D.no (dj := 18) hA rfl (by kernel_rfl) rfl rfl rfl ?_; clear hA a; intro a hA
    refine D.no (dj := 18) hA rfl (by kernel_rfl) rfl rfl rfl ?_; clear hA a; intro a hA
    refine D.no (dj := 18) hA rfl (by kernel_rfl) rfl rfl rfl ?_; clear hA a; intro a hA
    refine D.noU (dj := 21) hA rfl (by kernel_rfl) rfl rfl ?_; clear hA a; intro a hA
    refine D.noU (dj := 21) hA rfl (by kernel_rfl) rfl rfl ?_; clear hA a; intro a hA
    refine D.noU (dj := 21) hA rfl (by kernel_rfl) rfl rfl ?_; clear hA a; intro a hA
    refine D.noU (dj := 21) hA rfl (by kernel_rfl) rfl rfl ?_; clear hA a; intro a hA
    refine D.noU (dj := 21) hA rfl (by kernel_rfl) rfl rfl ?_; clear hA a; intro a hA
    refine D.noU (dj := 21) hA rfl (by kernel_rfl) rfl rfl ?_; clear hA a; intro a hA
    refine D.noU (dj := 21) hA rfl (by kernel_rfl) rfl rfl ?_; clear hA a; intro a hA
    refine D.noU (dj := 21) hA rfl (by kernel_rfl) rfl rfl ?_; clear hA a; intro a hA
    refine D.noU (dj := 21) hA rfl (by kernel_rfl) rfl rfl ?_; clear hA a; intro a hA
    refine D.noU (dj := 21) hA rfl (by kernel_rfl) rfl rfl ?_; clear hA a; intro a hA
    refine D.noU (dj := 21) hA rfl (by kernel_rfl) rfl rfl ?_; clear hA a; intro a hA
    refine D.no (dj := 18) hA rfl (by kernel_rfl) rfl rfl rfl ?_; clear hA a; intro a hA
    refine D.valF hA rfl (fun _ => R.pickF rfl rfl) rfl ?_; clear hA a; intro a hA
    refine D.done ?_
    replace hA : St 38 [(1, _), (3, _), (4, _), (7, _), (8, _), (9, _), (34, _)] a := hA.sub ((.cons rfl (.cons rfl (.cons rfl (.cons rfl (.cons rfl (.cons rfl (.cons rfl .nil))))))))
    exact hJ _ _ ⟨hA.sub (.cons rfl (.cons rfl (.cons rfl (.cons rfl (.cons rfl (.cons rfl (.cons (by first | rfl | exact congrArg (fun b => some (Value.bool b)) (by first | exact decide_eq_decide.2 (by omega) | exact or_bool (by omega) | exact and_bool (by omega) | (simp; done) | (simp [hg5]; done) | (have h80 := hg5; (try simp at h80); simp [h80]; done) | exact (decide_eq_false (fun h9 => hg5 h9.1)).symm)) .nil))))))), hM⟩
 ·
  have hab := hal k
  have hke : k = i.wt.length := by omega
  refine Ends.exit rfl ?_
  replace hA : St 38 [(3, _)] a := hA.sub ((.cons rfl .nil))
  refine Ends.seq (Ends.region ?_)
  refine S.val hA (R.move rfl) rfl ?_; clear hA a; intro a hA
  refine S.val hA (R.assign rfl) rfl ?_; clear hA a; intro a hA
  refine S.done ?_
  refine Ends.ret1 Try.func63 Try.results63 hA rfl ?_
  exact ⟨by rw [hke, f5], Mem.trans0 hbs hM.nilL⟩
set_option maxRecDepth 100000 in
set_option maxHeartbeats 400000 in
theorem knap10 (i : Ins) (ax3 : Option Addr) (cx3 : Nat) (ax4 : Option Addr) (cx4 : Nat) (ax5 : Option Addr) (cx5 : Nat) (hF : InF i) (hk1 : i.kind = 1) (w : World) (hx3 : IntSl w (.slice ax3 i.wt.length cx3) i.wt) (hx4 : IntSl w (.slice ax4 i.vl.length cx4) i.vl) (hx5 : RowsV w (.slice ax5 i.cost.length cx5) i.cost) :
  Calls Try.prog 46 #[.agg #[.int .i64 i.kind, .int .i64 i.n, .int .i64 i.cap, .slice ax3 i.wt.length cx3, .slice ax4 i.vl.length cx4, .slice ax5 i.cost.length cx5]] w fun e w' => ∃ a c, e = .returned (.slice a ((knS i)).length c) ∧ IntSl w' (.slice a ((knS i)).length c) ((knS i)) ∧ Below w.heap.size w w' := by
 have hbs := Below.refl (B := w.heap.size) w
 have f1 := hF.n1
 have f3 := hF.n64
 have f5 := hF.wt
 have f6 := hF.vl
 have f8 := hF.cap
 rw [if_pos hk1] at f5 f6
 have hwr := hF.wtr
 have hvr := hF.vlr
 have hal := alI_bd i
 have hrp : (List.replicate i.n.toNat (0 : Int)).length = i.n.toNat := List.length_replicate
 have hab := hal i.n.toNat
 have hM := Mem.start w
 refine Calls.of_ends (vs := [.agg #[.int .i64 i.kind, .int .i64 i.n, .int .i64 i.cap, .slice ax3 i.wt.length cx3, .slice ax4 i.vl.length cx4, .slice ax5 i.cost.length cx5]]) Try.func46 rfl Try.ntmps46 rfl ?_
 intro a hA
 replace hA : St 31 [(0, _)] a := hA
 refine Ends.seq (Ends.region ?_)
 refine S.box hA hM rfl rfl ?_; clear hA hM a; intro b1 w1 hb2 hM a hA
 replace hM : Mem _ _ [pt b1 #[.int .i64 i.kind, .int .i64 i.n, .int .i64 i.cap, .slice ax3 i.wt.length cx3, .slice ax4 i.vl.length cx4, .slice ax5 i.cost.length cx5] 25] _ := hM
 refine S.val hA (R.assign rfl) rfl ?_; clear hA a; intro a hA
 refine S.done ?_
 refine Ends.seq (Ends.region ?_)
 refine S.val hA (R.loadA sz25 rfl (hM.range (k := 0) rfl) rfl) rfl ?_; clear hA a; intro a hA
 refine S.call hA (R.callF Try.func62 rfl rfl rfl) rfl (fill10 i ax3 cx3 ax4 cx4 ax5 cx5 hF hk1 _ (hx3.mem hM) (hx4.mem hM) (hx5.mem hM)) ?_; clear hA a
 rintro e w2 ⟨ra3, rc4, rfl, rh5, hb⟩
 replace hM := hM.callB hb; clear hb
 have hbx6 := hM.block (k := 0) rfl
 have hbs := hbs.trans (hM.below.mono hbs.size)
 have hx3 := hx3.mem hM
 have hx4 := hx4.mem hM
 have hx5 := hx5.mem hM
 replace hM := Mem.start w2
 refine ⟨.tuple #[.slice ra3 (((flS i (byQ i.vl i.wt) i.n.toNat).1).length) rc4, .int .i64 ((flS i (byQ i.vl i.wt) i.n.toNat).2.2)], rfl, fun a hA => ?_⟩
 refine S.val hA (R.move rfl) rfl ?_; clear hA a; intro a hA
 refine S.val hA (R.extract (v := .slice ra3 (((flS i (byQ i.vl i.wt) i.n.toNat).1).length) rc4) rfl rfl) rfl ?_; clear hA a; intro a hA
 refine S.val hA (R.extract (v := .int .i64 ((flS i (byQ i.vl i.wt) i.n.toNat).2.2)) rfl rfl) rfl ?_; clear hA a; intro a hA
 refine S.val hA (R.assign rfl) rfl ?_; clear hA a; intro a hA
 refine S.val hA (R.assign rfl) rfl ?_; clear hA a; intro a hA
 refine S.done ?_
 replace hA : St 31 [(1, _), (3, _), (4, _)] a := hA.sub ((.cons rfl (.cons rfl (.cons rfl .nil))))
 refine Ends.seq (Ends.seq (Ends.region ?_))
 refine S.val hA (R.loadA sz25 rfl (hM.oldRange hbx6) rfl) rfl ?_; clear hA a; intro a hA
 refine S.call hA (R.callF Try.func63 rfl rfl rfl) rfl (alone10 i ax3 cx3 ax4 cx4 ax5 cx5 hF hk1 _ (hx3.mem hM) (hx4.mem hM) (hx5.mem hM)) ?_; clear hA a
 rintro e w3 ⟨rfl, hb⟩
 replace hM := hM.callB hb; clear hb
 refine ⟨.int .i64 (alI i i.n.toNat), rfl, fun a hA => ?_⟩
 refine S.val hA (R.assign rfl) rfl ?_; clear hA a; intro a hA
 refine S.done ?_
 refine Ends.seq ?_
 refine Ends.cut (fun (a : Act) (wv : World) => St 31 [(1, .pointer (some ⟨b1, 0, none⟩)), (3, .slice ra3 (((flS i (byQ i.vl i.wt) i.n.toNat).1).length) rc4), (5, .int .i64 (alI i i.n.toNat)), (23, .bool (decide ((0 ≤ (alI i i.n.toNat) ∧ ((flS i (byQ i.vl i.wt) i.n.toNat).2.2) < (i.vl.getD ((alI i i.n.toNat).toNat) 0)))))] a ∧ Mem w2 nof [] wv) ?_ (fun k2 hJ => ?_)
 ·
  clear hA hM a; rintro a w4 ⟨hA, hM⟩
  refine Ends.ite hA rfl (fun hc7 => ?_) (fun hc7 => ?_)
  ·
   refine Ends.seq (Ends.region ?_)
   refine S.val hA (R.fieldAddr (q := 1) fi25_1 rfl rfl rfl) rfl ?_; clear hA a; intro a hA
   refine S.val hA (R.load sz3 rfl (hM.cellB hbx6 rfl)) rfl ?_; clear hA a; intro a hA
   refine S.make hA hM Try.underlying22 info3 rfl rfl rfl (by omega) (by show (8 : Int) * _ ≤ _; omega) (by omega) rfl ?_; clear hA hM a; intro b8 w5 hb9 hM a hA
   replace hM : Mem _ _ [pt b8 (madeCells #[.int .i64 0] (i.n.toNat * 1)) 3] _ := hM
   rw [Nat.mul_one, made_ints] at hM
   replace hM : Mem _ _ [pt b8 ((ints (List.replicate i.n.toNat 0))) 3] _ := hM
   refine S.val hA (R.assign rfl) rfl ?_; clear hA a; intro a hA
   refine S.done ?_
   replace hA : St 31 [(3, _), (5, _)] a := hA.sub ((.cons rfl (.cons rfl .nil)))
   refine Ends.region ?_
   refine S.val hA (R.move rfl) rfl ?_; clear hA a; intro a hA
   refine S.val hA (R.move rfl) rfl ?_; clear hA a; intro a hA
   refine S.val hA (R.indexAddr (q := (alI i i.n.toNat).toNat) sl22 rfl rfl (by omega) (by omega)) rfl ?_; clear hA a; intro a hA
   refine S.store (k := 0) hA hM sz3 rfl rfl rfl rfl (ints_getD ((List.replicate i.n.toNat 0)) _ (by omega)) ?_; clear hM
   intro w6 hM
   rw [ints_set] at hM
   replace hM : Mem _ _ [pt b8 ((ints (((List.replicate i.n.toNat 0)).set ((alI i i.n.toNat).toNat) 1))) 3] _ := hM
   refine S.done ?_
   replace hA : St 31 [(3, _)] a := hA.sub ((.cons rfl .nil))
   refine Ends.seq (Ends.region ?_)
   refine S.val hA (R.move rfl) rfl ?_; clear hA a; intro a hA
   refine S.val hA (R.assign rfl) rfl ?_; clear hA a; intro a hA
   refine S.done ?_
   refine Ends.ret1 Try.func46 Try.results46 hA rfl ?_
   have he : knS i = (((List.replicate i.n.toNat 0)).set ((alI i i.n.toNat).toNat) 1) := if_pos hc7
   have hkl := knS_len i
   rw [← he] at hM
   have hr := hM.ptRs (k := 0) (X := knS i) rfl (by omega)
   rw [hkl] at hr
   exact ⟨_, _, by rw [hkl], by rw [hkl]; exact hr, Mem.trans0 hbs hM.nilL⟩
  ·
   refine Ends.skip (Ends.seq (Ends.region ?_))
   refine S.val hA (R.move rfl) rfl ?_; clear hA a; intro a hA
   refine S.val hA (R.assign rfl) rfl ?_; clear hA a; intro a hA
   refine S.done ?_
   replace hA : St 31 [(2, _)] a := hA.sub ((.cons rfl .nil))
   refine Ends.ret1 Try.func46 Try.results46 hA rfl ?_
   have he : knS i = (flS i (byQ i.vl i.wt) i.n.toNat).1 := if_neg hc7
   rw [he]
   exact ⟨_, _, rfl, rh5.mem hM, Mem.trans0 hbs hM.nilL⟩
 ·
  refine Ends.region ?_
  refine S.val hA (R.move rfl) rfl ?_; clear hA a; intro a hA
  refine S.val hA (R.geq rfl rfl) rfl ?_; clear hA a; intro a hA
  refine S.val hA (R.move rfl) rfl ?_; clear hA a; intro a hA
  refine hA.split (d := 15) rfl ?_ ?_
  ·
   clear hA; intro hg10 hA
   refine S.valg (dj := 15) hA (by kernel_rfl) rfl (R.fieldAddr (q := 4) fi25_4 rfl rfl rfl) rfl ?_; clear hA a; intro a hA
   refine S.valg (dj := 15) hA (by kernel_rfl) rfl (R.load sz22 rfl (hM.cellB hbx6 rfl)) rfl ?_; clear hA a; intro a hA
   refine S.valg (dj := 15) hA (by kernel_rfl) rfl (R.move rfl) rfl ?_; clear hA a; intro a hA
   refine S.valg (dj := 15) hA (by kernel_rfl) rfl (R.idxI hx4 (j := (alI i i.n.toNat).toNat) sl22 rfl rfl (by omega) (rfl)) rfl ?_; clear hA a; intro a hA
   refine S.valg (dj := 15) hA (by kernel_rfl) rfl (R.loadI (hx4.mem hM) sz3 rfl (by omega)) rfl ?_; clear hA a; intro a hA
   refine S.valg (dj := 15) hA (by kernel_rfl) rfl (R.move rfl) rfl ?_; clear hA a; intro a hA
   refine S.valg (dj := 15) hA (by kernel_rfl) rfl (R.gtr rfl rfl) rfl ?_; clear hA a; intro a hA
   refine S.val hA (R.pickT rfl rfl) rfl ?_; clear hA a; intro a hA
   refine S.done ?_
   replace hA : St 31 [(1, _), (3, _), (5, _), (23, _)] a := hA.sub ((.cons rfl (.cons rfl (.cons rfl (.cons rfl .nil)))))
   exact hJ _ _ ⟨hA.sub (.cons rfl (.cons rfl (.cons rfl (.cons (by first | rfl | exact congrArg (fun b => some (Value.bool b)) (by first | exact decide_eq_decide.2 (by omega) | exact or_bool (by omega) | exact and_bool (by omega) | (simp; done) | (simp [hg10]; done) | (have h80 := hg10; (try simp at h80); simp [h80]; done) | exact (decide_eq_false (fun h9 => hg10 h9.1)).symm)) .nil)))), hM⟩
  ·
   clear hA; intro hg10 hA
   refine S.no (dj := 15) hA (by kernel_rfl) rfl rfl rfl ?_; clear hA a; intro a hA
   refine S.no (dj := 15) hA (by kernel_rfl) rfl rfl rfl ?_; clear hA a; intro a hA
   refine S.no (dj := 15) hA (by kernel_rfl) rfl rfl rfl ?_; clear hA a; intro a hA
   refine S.no (dj := 15) hA (by kernel_rfl) rfl rfl rfl ?_; clear hA a; intro a hA
   refine S.no (dj := 15) hA (by kernel_rfl) rfl rfl rfl ?_; clear hA a; intro a hA
   refine S.no (dj := 15) hA (by kernel_rfl) rfl rfl rfl ?_; clear hA a; intro a hA
   refine S.no (dj := 15) hA (by kernel_rfl) rfl rfl rfl ?_; clear hA a; intro a hA
   refine S.val hA (R.pickF rfl rfl) rfl ?_; clear hA a; intro a hA
   refine S.done ?_
   replace hA : St 31 [(1, _), (3, _), (5, _), (23, _)] a := hA.sub ((.cons rfl (.cons rfl (.cons rfl (.cons rfl .nil)))))
   exact hJ _ _ ⟨hA.sub (.cons rfl (.cons rfl (.cons rfl (.cons (by first | rfl | exact congrArg (fun b => some (Value.bool b)) (by first | exact decide_eq_decide.2 (by omega) | exact or_bool (by omega) | exact and_bool (by omega) | (simp; done) | (simp [hg10]; done) | (have h80 := hg10; (try simp at h80); simp [h80]; done) | exact (decide_eq_false (fun h9 => hg10 h9.1)).symm)) .nil)))), hM⟩
set_option maxRecDepth 100000 in
set_option maxHeartbeats 400000 in
theorem rknap10 (i : Ins) (ax3 : Option Addr) (cx3 : Nat) (ax4 : Option Addr) (cx4 : Nat) (ax5 : Option Addr) (cx5 : Nat) (hF : InF i) (hk1 : i.kind = 1) (w : World) (hx3 : IntSl w (.slice ax3 i.wt.length cx3) i.wt) (hx4 : IntSl w (.slice ax4 i.vl.length cx4) i.vl) (hx5 : RowsV w (.slice ax5 i.cost.length cx5) i.cost) :
  Calls Try.prog 48 #[.agg #[.int .i64 i.kind, .int .i64 i.n, .int .i64 i.cap, .slice ax3 i.wt.length cx3, .slice ax4 i.vl.length cx4, .slice ax5 i.cost.length cx5]] w fun e w' => ∃ a c, e = .returned (.slice a ((knS i)).length c) ∧ IntSl w' (.slice a ((knS i)).length c) ((knS i)) ∧ Below w.heap.size w w' := by
 have hbs := Below.refl (B := w.heap.size) w
 have f1 := hF.n1
 have f3 := hF.n64
 have f5 := hF.wt
 have f6 := hF.vl
 have f8 := hF.cap
 rw [if_pos hk1] at f5 f6
 have hwr := hF.wtr
 have hvr := hF.vlr
 have hal := alI_bd i
 have hrp : (List.replicate i.n.toNat (0 : Int)).length = i.n.toNat := List.length_replicate
 have hM := Mem.start w
 refine Calls.of_ends (vs := [.agg #[.int .i64 i.kind, .int .i64 i.n, .int .i64 i.cap, .slice ax3 i.wt.length cx3, .slice ax4 i.vl.length cx4, .slice ax5 i.cost.length cx5]]) Try.func48 rfl Try.ntmps48 rfl ?_
 intro a hA
 replace hA : St 116 [(0, _)] a := hA
 refine Ends.seq (Ends.region ?_)
 refine S.box hA hM rfl rfl ?_; clear hA hM a; intro b1 w1 hb2 hM a hA
 replace hM : Mem _ _ [pt b1 #[.int .i64 i.kind, .int .i64 i.n, .int .i64 i.cap, .slice ax3 i.wt.length cx3, .slice ax4 i.vl.length cx4, .slice ax5 i.cost.length cx5] 25] _ := hM
 refine S.val hA (R.assign rfl) rfl ?_; clear hA a; intro a hA
 refine S.done ?_
 refine Ends.seq (Ends.region ?_)
 refine S.val hA (R.fieldAddr (q := 1) fi25_1 rfl rfl rfl) rfl ?_; clear hA a; intro a hA
 refine S.val hA (R.load sz3 rfl (hM.cell (k := 0) rfl rfl)) rfl ?_; clear hA a; intro a hA
 refine S.make hA hM Try.underlying22 info3 rfl rfl rfl (by omega) (by show (8 : Int) * _ ≤ _; omega) (by omega) rfl ?_; clear hA hM a; intro b3 w2 hb4 hM a hA
 replace hM : Mem _ _ [pt b3 (madeCells #[.int .i64 0] (i.n.toNat * 1)) 3, pt b1 #[.int .i64 i.kind, .int .i64 i.n, .int .i64 i.cap, .slice ax3 i.wt.length cx3, .slice ax4 i.vl.length cx4, .slice ax5 i.cost.length cx5] 25] _ := hM
 rw [Nat.mul_one, made_ints] at hM
 replace hM : Mem _ _ [pt b3 ((ints (List.replicate i.n.toNat 0))) 3, pt b1 #[.int .i64 i.kind, .int .i64 i.n, .int .i64 i.cap, .slice ax3 i.wt.length cx3, .slice ax4 i.vl.length cx4, .slice ax5 i.cost.length cx5] 25] _ := hM
 refine S.val hA (R.assign rfl) rfl ?_; clear hA a; intro a hA
 refine S.done ?_
 replace hA : St 116 [(1, _), (3, _)] a := hA.sub ((.cons rfl (.cons rfl .nil)))
 refine Ends.seq (Ends.region ?_)
 refine S.val hA (R.fieldAddr (q := 4) fi25_4 rfl rfl rfl) rfl ?_; clear hA a; intro a hA
 refine S.val hA (R.load sz22 rfl (hM.cell (k := 1) rfl rfl)) rfl ?_; clear hA a; intro a hA
 refine S.val hA (R.fieldAddr (q := 3) fi25_3 rfl rfl rfl) rfl ?_; clear hA a; intro a hA
 refine S.val hA (R.load sz22 rfl (hM.cell (k := 1) rfl rfl)) rfl ?_; clear hA a; intro a hA
 obtain ⟨l, hl⟩ : ∃ l, byQ i.vl i.wt = l := ⟨_, rfl⟩
 have hll : l.length = i.n.toNat := by rw [← hl, byQ_len]; exact f6
 have hlat : ∀ m, m < i.n.toNat → 0 ≤ l.getD m 0 ∧ l.getD m 0 < (i.n.toNat : Int) := fun m hm => by rw [← hl]; have := byQ_at (v := i.vl) (w := i.wt) (m := m) (by omega); omega
 refine S.call hA (R.callF Try.func65 rfl rfl rfl) rfl (rratioK i ax3 cx3 ax4 cx4 ax5 cx5 l hl hF hk1 _ (hx4.mem hM) (hx3.mem hM)) ?_; clear hA a
 rintro e w3 ⟨la, lc, rfl, hli, hlf, hb⟩
 replace hM : Mem _ _ [rd la lc l, pt b3 ((ints (List.replicate i.n.toNat 0))) 3, pt b1 #[.int .i64 i.kind, .int .i64 i.n, .int .i64 i.cap, .slice ax3 i.wt.length cx3, .slice ax4 i.vl.length cx4, .slice ax5 i.cost.length cx5] 25] _ := hM.callRd hb hli hlf; clear hb
 refine ⟨.tuple #[.slice la l.length lc, .int .i64 0], rfl, fun a hA => ?_⟩
 refine S.val hA (R.move rfl) rfl ?_; clear hA a; intro a hA
 refine S.val hA (R.extract (v := .slice la l.length lc) rfl rfl) rfl ?_; clear hA a; intro a hA
 refine S.val hA (R.extract (v := .int .i64 0) rfl rfl) rfl ?_; clear hA a; intro a hA
 refine S.val hA (R.assign rfl) rfl ?_; clear hA a; intro a hA
 refine S.val hA (R.assign rfl) rfl ?_; clear hA a; intro a hA
 refine S.done ?_
 replace hA : St 116 [(1, _), (3, _), (4, _)] a := hA.sub ((.cons rfl (.cons rfl (.cons rfl .nil))))
 refine Ends.seq (Ends.region ?_)
 refine S.val hA (R.fieldAddr (q := 2) fi25_2 rfl rfl rfl) rfl ?_; clear hA a; intro a hA
 refine S.val hA (R.load sz3 rfl (hM.cell (k := 2) rfl rfl)) rfl ?_; clear hA a; intro a hA
 refine S.val hA (R.to (v := .int .i64 ((flS i l 0).2.1)) (R.assign rfl) (rfl)) rfl ?_; clear hA a; intro a hA
 refine S.val hA (R.to (v := .int .i64 ((flS i l 0).2.2)) (R.assign rfl) (rfl)) rfl ?_; clear hA a; intro a hA
 refine S.done ?_
 refine Ends.seq (Ends.seq (Ends.region ?_))
 refine S.val hA (R.assign rfl) rfl ?_; clear hA a; intro a hA
 refine S.done ?_
 refine Ends.block ?_
 replace hM : Mem _ _ [rd la lc l, pt b3 ((ints (flS i l 0).1)) 3, pt b1 #[.int .i64 i.kind, .int .i64 i.n, .int .i64 i.cap, .slice ax3 i.wt.length cx3, .slice ax4 i.vl.length cx4, .slice ax5 i.cost.length cx5] 25] _ := hM
 refine Ends.loop (σ := Nat) (fun m (a : Act) (wv : World) => St 116 [(1, .pointer (some ⟨b1, 0, none⟩)), (3, .slice (some ⟨b3, 0, none⟩) i.n.toNat i.n.toNat), (4, .slice la l.length lc), (6, .int .i64 ((flS i l m).2.1)), (7, .int .i64 ((flS i l m).2.2)), (8, .int .i64 ((m : Int)))] a ∧ Mem w nof [rd la lc l, pt b3 ((ints (flS i l m).1)) 3, pt b1 #[.int .i64 i.kind, .int .i64 i.n, .int .i64 i.cap, .slice ax3 i.wt.length cx3, .slice ax4 i.vl.length cx4, .slice ax5 i.cost.length cx5] 25] wv ∧ (m ≤ i.n.toNat)) (fun m => i.n.toNat - m) 0 ⟨hA.sub ((.cons rfl (.cons rfl (.cons rfl (.cons rfl (.cons rfl (.cons rfl .nil))))))), hM, (Nat.zero_le _)⟩ ?_
 clear hA hM a
 rintro m a w4 ⟨hA, hM, hm⟩ hNext
 refine Ends.seq (Ends.seq (Ends.region ?_))
 refine S.val hA (R.move rfl) rfl ?_; clear hA a; intro a hA
 refine S.val hA (R.move rfl) rfl ?_; clear hA a; intro a hA
 refine S.val hA (R.lenS Try.underlying22 rfl rfl) rfl ?_; clear hA a; intro a hA
 refine S.val hA (R.lss rfl rfl) rfl ?_; clear hA a; intro a hA
 refine S.done ?_
 refine Ends.ite hA rfl (fun hc5 => ?_) (fun hc5 => ?_)
 ·
  have hla := hlat m (by omega)
  have hfl := flS_len i l m
  have hfr := flS_room hF l m
  have hfw := flS_worth hF l m
  have hwa := hwr (l.getD m 0).toNat
  have hva := hvr (l.getD m 0).toNat
  refine Ends.skip (Ends.seq (Ends.block (Ends.seq ?_)))
  refine Ends.drawn (Mem w nof [rd la lc l, pt b3 ((ints (flS i l m).1)) 3, pt b1 #[.int .i64 i.kind, .int .i64 i.n, .int .i64 i.cap, .slice ax3 i.wt.length cx3, .slice ax4 i.vl.length cx4, .slice ax5 i.cost.length cx5] 25]) (.cons (0, true) (.cons (1, true) (.cons (2, true) (.cons (3, true) (.cons (4, true) (.cons (5, true) (.cons (6, true) (.cons (7, true) (.cons (8, true) (.cons (9, true) .nil)))))))))) 10 mixed (by kernel_rfl) (by kernel_rfl) (by kernel_rfl) hM.drew ?_
  replace hM := hM.drew
  refine D.valF hA rfl (fun _ => R.fieldAddr (q := 3) fi25_3 rfl rfl rfl) rfl ?_; clear hA a; intro a hA
  refine D.val hA rfl (by kernel_rfl) (fun _ hM => R.load sz22 rfl (hM.cell (k := 2) rfl rfl)) rfl ?_; clear hA a; intro a hA
  refine D.valF hA rfl (fun _ => R.move rfl) rfl ?_; clear hA a; intro a hA
  refine D.valF hA rfl (fun _ => R.move rfl) rfl ?_; clear hA a; intro a hA
  refine D.valF hA rfl (fun _ => R.idxI (hM.rd (k := 0) rfl) (j := m) sl22 rfl rfl (by omega) (rfl)) rfl ?_; clear hA a; intro a hA
  refine D.val hA rfl (by kernel_rfl) (fun _ hM => R.loadI (hM.rd (k := 0) rfl) sz3 rfl (by omega)) rfl ?_; clear hA a; intro a hA
  refine D.valF hA rfl (fun _ => R.idxI hx3 (j := (l.getD m 0).toNat) sl22 rfl rfl (by omega) (rfl)) rfl ?_; clear hA a; intro a hA
  refine D.val hA rfl (by kernel_rfl) (fun _ hM => R.loadI (hx3.mem hM) sz3 rfl (by omega)) rfl ?_; clear hA a; intro a hA
  refine D.valF hA rfl (fun _ => R.move rfl) rfl ?_; clear hA a; intro a hA
  refine D.valF hA rfl (fun _ => R.leq rfl rfl) rfl ?_; clear hA a; intro a hA
  refine D.done ?_
  replace hA : St 116 [(1, _), (3, _), (4, _), (6, _), (7, _), (8, _), (39, _)] a := hA.sub ((.cons rfl (.cons rfl (.cons rfl (.cons rfl (.cons rfl (.cons rfl (.cons rfl .nil))))))))
  refine Ends.ite hA rfl (fun hc6 => ?_) (fun hc6 => ?_)
  ·
   refine Ends.seq (Ends.region ?_)
   refine S.val hA (R.move rfl) rfl ?_; clear hA a; intro a hA
   refine S.val hA (R.move rfl) rfl ?_; clear hA a; intro a hA
   refine S.val hA (R.move rfl) rfl ?_; clear hA a; intro a hA
   refine S.val hA (R.idxI (hM.rd (k := 0) rfl) (j := m) sl22 rfl rfl (by omega) (rfl)) rfl ?_; clear hA a; intro a hA
   refine S.val hA (R.loadI (hM.rd (k := 0) rfl) sz3 rfl (by omega)) rfl ?_; clear hA a; intro a hA
   refine S.val hA (R.indexAddr (q := (l.getD m 0).toNat) sl22 rfl rfl (by omega) (by omega)) rfl ?_; clear hA a; intro a hA
   refine S.store (k := 1) hA hM sz3 rfl rfl rfl rfl (ints_getD ((flS i l m).1) _ (by omega)) ?_; clear hM
   intro w5 hM
   rw [ints_set] at hM
   replace hM : Mem _ _ [rd la lc l, pt b3 ((ints (((flS i l m).1).set ((l.getD m 0).toNat) 1))) 3, pt b1 #[.int .i64 i.kind, .int .i64 i.n, .int .i64 i.cap, .slice ax3 i.wt.length cx3, .slice ax4 i.vl.length cx4, .slice ax5 i.cost.length cx5] 25] _ := hM
   refine S.done ?_
   replace hA : St 116 [(1, _), (3, _), (4, _), (6, _), (7, _), (8, _)] a := hA.sub ((.cons rfl (.cons rfl (.cons rfl (.cons rfl (.cons rfl (.cons rfl .nil)))))))
   refine Ends.seq ?_
   refine Ends.drawn (Mem w nof [rd la lc l, pt b3 ((ints (((flS i l m).1).set ((l.getD m 0).toNat) 1))) 3, pt b1 #[.int .i64 i.kind, .int .i64 i.n, .int .i64 i.cap, .slice ax3 i.wt.length cx3, .slice ax4 i.vl.length cx4, .slice ax5 i.cost.length cx5] 25]) (.cons (0, true) (.cons (1, true) (.cons (2, true) (.cons (3, true) (.cons (4, true) (.cons (5, true) (.cons (6, true) (.cons (7, true) (.cons (8, true) (.cons (9, true) (.cons (10, true) .nil))))))))))) 11 mixed (by kernel_rfl) (by kernel_rfl) (by kernel_rfl) hM.drew ?_
   replace hM := hM.drew
   refine D.valF hA rfl (fun _ => R.move rfl) rfl ?_; clear hA a; intro a hA
   refine D.valF hA rfl (fun _ => R.fieldAddr (q := 3) fi25_3 rfl rfl rfl) rfl ?_; clear hA a; intro a hA
   refine D.val hA rfl (by kernel_rfl) (fun _ hM => R.load sz22 rfl (hM.cell (k := 2) rfl rfl)) rfl ?_; clear hA a; intro a hA
   refine D.valF hA rfl (fun _ => R.move rfl) rfl ?_; clear hA a; intro a hA
   refine D.valF hA rfl (fun _ => R.move rfl) rfl ?_; clear hA a; intro a hA
   refine D.valF hA rfl (fun _ => R.idxI (hM.rd (k := 0) rfl) (j := m) sl22 rfl rfl (by omega) (rfl)) rfl ?_; clear hA a; intro a hA
   refine D.val hA rfl (by kernel_rfl) (fun _ hM => R.loadI (hM.rd (k := 0) rfl) sz3 rfl (by omega)) rfl ?_; clear hA a; intro a hA
   refine D.valF hA rfl (fun _ => R.idxI hx3 (j := (l.getD m 0).toNat) sl22 rfl rfl (by omega) (rfl)) rfl ?_; clear hA a; intro a hA
   refine D.val hA rfl (by kernel_rfl) (fun _ hM => R.loadI (hx3.mem hM) sz3 rfl (by omega)) rfl ?_; clear hA a; intro a hA
   refine D.valF hA rfl (fun _ => R.subI rfl rfl (r := ((flS i l m).2.1) - (i.wt.getD ((l.getD m 0).toNat) 0)) rfl (by omega)) rfl ?_; clear hA a; intro a hA
   refine D.valF hA rfl (fun _ => R.assign rfl) rfl ?_; clear hA a; intro a hA
   refine D.done ?_
   replace hA : St 116 [(1, _), (3, _), (4, _), (6, _), (7, _), (8, _)] a := hA.sub ((.cons rfl (.cons rfl (.cons rfl (.cons rfl (.cons rfl (.cons rfl .nil)))))))
   refine Ends.drawn (Mem w nof [rd la lc l, pt b3 ((ints (((flS i l m).1).set ((l.getD m 0).toNat) 1))) 3, pt b1 #[.int .i64 i.kind, .int .i64 i.n, .int .i64 i.cap, .slice ax3 i.wt.length cx3, .slice ax4 i.vl.length cx4, .slice ax5 i.cost.length cx5] 25]) (.cons (0, true) (.cons (1, true) (.cons (2, true) (.cons (3, true) (.cons (4, true) (.cons (5, true) (.cons (6, true) (.cons (7, true) (.cons (8, true) (.cons (9, true) (.cons (10, true) .nil))))))))))) 11 mixed (by kernel_rfl) (by kernel_rfl) (by kernel_rfl) hM.drew ?_
   replace hM := hM.drew
   refine D.valF hA rfl (fun _ => R.move rfl) rfl ?_; clear hA a; intro a hA
   refine D.valF hA rfl (fun _ => R.fieldAddr (q := 4) fi25_4 rfl rfl rfl) rfl ?_; clear hA a; intro a hA
   refine D.val hA rfl (by kernel_rfl) (fun _ hM => R.load sz22 rfl (hM.cell (k := 2) rfl rfl)) rfl ?_; clear hA a; intro a hA
   refine D.valF hA rfl (fun _ => R.move rfl) rfl ?_; clear hA a; intro a hA
   refine D.valF hA rfl (fun _ => R.move rfl) rfl ?_; clear hA a; intro a hA
   refine D.valF hA rfl (fun _ => R.idxI (hM.rd (k := 0) rfl) (j := m) sl22 rfl rfl (by omega) (rfl)) rfl ?_; clear hA a; intro a hA
   refine D.val hA rfl (by kernel_rfl) (fun _ hM => R.loadI (hM.rd (k := 0) rfl) sz3 rfl (by omega)) rfl ?_; clear hA a; intro a hA
   refine D.valF hA rfl (fun _ => R.idxI hx4 (j := (l.getD m 0).toNat) sl22 rfl rfl (by omega) (rfl)) rfl ?_; clear hA a; intro a hA
   refine D.val hA rfl (by kernel_rfl) (fun _ hM => R.loadI (hx4.mem hM) sz3 rfl (by omega)) rfl ?_; clear hA a; intro a hA
   refine D.valF hA rfl (fun _ => R.addI rfl rfl (r := ((flS i l m).2.2) + (i.vl.getD ((l.getD m 0).toNat) 0)) rfl (by omega)) rfl ?_; clear hA a; intro a hA
   refine D.valF hA rfl (fun _ => R.assign rfl) rfl ?_; clear hA a; intro a hA
   refine D.done ?_
   replace hA : St 116 [(1, _), (3, _), (4, _), (6, _), (7, _), (8, _)] a := hA.sub ((.cons rfl (.cons rfl (.cons rfl (.cons rfl (.cons rfl (.cons rfl .nil)))))))
   refine Ends.inBlock (Ends.region ?_)
   refine S.val hA (R.move rfl) rfl ?_; clear hA a; intro a hA
   refine S.val hA (R.addI rfl rfl (r := ((m : Int)) + 1) rfl (by omega)) rfl ?_; clear hA a; intro a hA
   refine S.val hA (R.assign rfl) rfl ?_; clear hA a; intro a hA
   refine S.done ?_
   have hs9 := flS_take hc6
   rw [show (flS i l m).1.set (l.getD m 0).toNat 1 = (flS i l (m + 1)).1 by rw [hs9]] at hM
   rw [show (flS i l m).2.1 - i.wt.getD (l.getD m 0).toNat 0 = (flS i l (m + 1)).2.1 by rw [hs9], show (flS i l m).2.2 + i.vl.getD (l.getD m 0).toNat 0 = (flS i l (m + 1)).2.2 by rw [hs9]] at hA
   replace hM : Mem _ _ [rd la lc l, pt b3 ((ints (flS i l (m + 1)).1)) 3, pt b1 #[.int .i64 i.kind, .int .i64 i.n, .int .i64 i.cap, .slice ax3 i.wt.length cx3, .slice ax4 i.vl.length cx4, .slice ax5 i.cost.length cx5] 25] _ := hM
   exact hNext ((m + 1)) _ _ ((by show i.n.toNat - (m + 1) < i.n.toNat - m; omega)) ⟨hA.sub ((.cons rfl (.cons rfl (.cons rfl (.cons rfl (.cons rfl (.cons rfl .nil))))))), hM, (by omega)⟩
  ·
   refine Ends.skip (Ends.inBlock (Ends.region ?_))
   refine S.val hA (R.move rfl) rfl ?_; clear hA a; intro a hA
   refine S.val hA (R.addI rfl rfl (r := ((m : Int)) + 1) rfl (by omega)) rfl ?_; clear hA a; intro a hA
   refine S.val hA (R.assign rfl) rfl ?_; clear hA a; intro a hA
   refine S.done ?_
   have hs9 := flS_leave hc6
   rw [← hs9] at hM hA
   replace hM : Mem _ _ [rd la lc l, pt b3 ((ints (flS i l (m + 1)).1)) 3, pt b1 #[.int .i64 i.kind, .int .i64 i.n, .int .i64 i.cap, .slice ax3 i.wt.length cx3, .slice ax4 i.vl.length cx4, .slice ax5 i.cost.length cx5] 25] _ := hM
   exact hNext ((m + 1)) _ _ ((by show i.n.toNat - (m + 1) < i.n.toNat - m; omega)) ⟨hA.sub ((.cons rfl (.cons rfl (.cons rfl (.cons rfl (.cons rfl (.cons rfl .nil))))))), hM, (by omega)⟩
 ·
  have hme : m = i.n.toNat := by omega
  refine Ends.exit rfl ?_
  replace hA : St 116 [(1, _), (3, _), (7, _)] a := hA.sub ((.cons rfl (.cons rfl (.cons rfl .nil))))
  refine Ends.seq (Ends.region ?_)
  refine S.val hA (R.to (v := .int .i64 (alI i 0)) (R.assign rfl) (rfl)) rfl ?_; clear hA a; intro a hA
  refine S.done ?_
  refine Ends.seq (Ends.seq (Ends.region ?_))
  refine S.val hA (R.assign rfl) rfl ?_; clear hA a; intro a hA
  refine S.done ?_
  refine Ends.block ?_
  refine Ends.loop (σ := Nat) (fun k (a : Act) (wv : World) => St 116 [(1, .pointer (some ⟨b1, 0, none⟩)), (3, .slice (some ⟨b3, 0, none⟩) i.n.toNat i.n.toNat), (7, .int .i64 ((flS i l m).2.2)), (9, .int .i64 (alI i k)), (10, .int .i64 ((k : Int)))] a ∧ Mem w nof [rd la lc l, pt b3 ((ints (flS i l m).1)) 3, pt b1 #[.int .i64 i.kind, .int .i64 i.n, .int .i64 i.cap, .slice ax3 i.wt.length cx3, .slice ax4 i.vl.length cx4, .slice ax5 i.cost.length cx5] 25] wv ∧ (k ≤ i.n.toNat)) (fun k => i.n.toNat - k) 0 ⟨hA.sub ((.cons rfl (.cons rfl (.cons rfl (.cons rfl (.cons rfl .nil)))))), hM, (Nat.zero_le _)⟩ ?_
  clear hA hM a
  rintro k a w6 ⟨hA, hM, hk⟩ hNext1
  refine Ends.seq (Ends.seq (Ends.region ?_))
  refine S.val hA (R.move rfl) rfl ?_; clear hA a; intro a hA
  refine S.val hA (R.fieldAddr (q := 1) fi25_1 rfl rfl rfl) rfl ?_; clear hA a; intro a hA
  refine S.val hA (R.load sz3 rfl (hM.cell (k := 2) rfl rfl)) rfl ?_; clear hA a; intro a hA
  refine S.val hA (R.lss rfl rfl) rfl ?_; clear hA a; intro a hA
  refine S.done ?_
  refine Ends.ite hA rfl (fun hc7 => ?_) (fun hc7 => ?_)
  ·
   have hab := hal k
   refine Ends.skip (Ends.seq (Ends.block (Ends.seq ?_)))
   refine Ends.cut (fun (a : Act) (wv : World) => St 116 [(1, .pointer (some ⟨b1, 0, none⟩)), (3, .slice (some ⟨b3, 0, none⟩) i.n.toNat i.n.toNat), (7, .int .i64 ((flS i l m).2.2)), (9, .int .i64 (alI i k)), (10, .int .i64 ((k : Int))), (96, .bool (decide (((i.wt.getD k 0) ≤ i.cap ∧ ((alI i k) < 0 ∨ (i.vl.getD ((alI i k).toNat) 0) < (i.vl.getD k 0))))))] a ∧ Mem w nof [rd la lc l, pt b3 ((ints (flS i l m).1)) 3, pt b1 #[.int .i64 i.kind, .int .i64 i.n, .int .i64 i.cap, .slice ax3 i.wt.length cx3, .slice ax4 i.vl.length cx4, .slice ax5 i.cost.length cx5] 25] wv) ?_ (fun k2 hJ => ?_)
   ·
    clear hA hM a; rintro a w7 ⟨hA, hM⟩
    refine Ends.ite hA rfl (fun hc8 => ?_) (fun hc8 => ?_)
    ·
     have hs9 : alI i (k + 1) = (k : Int) := by rw [alI]; exact if_pos hc8
     refine Ends.region ?_
     refine S.val hA (R.move rfl) rfl ?_; clear hA a; intro a hA
     refine S.val hA (R.to (v := .int .i64 (alI i (k + 1))) (R.assign rfl) (congrArg (Value.int .i64) hs9.symm)) rfl ?_; clear hA a; intro a hA
     refine S.done ?_
     refine Ends.inBlock (Ends.region ?_)
     refine S.val hA (R.move rfl) rfl ?_; clear hA a; intro a hA
     refine S.val hA (R.addI rfl rfl (r := ((k : Int)) + 1) rfl (by omega)) rfl ?_; clear hA a; intro a hA
     refine S.val hA (R.assign rfl) rfl ?_; clear hA a; intro a hA
     refine S.done ?_
     replace hA : St 116 [(1, _), (3, _), (7, _), (9, _), (10, _)] a := hA.sub ((.cons rfl (.cons rfl (.cons rfl (.cons rfl (.cons rfl .nil))))))
     exact hNext1 ((k + 1)) _ _ ((by show i.n.toNat - (k + 1) < i.n.toNat - k; omega)) ⟨hA.sub ((.cons rfl (.cons rfl (.cons rfl (.cons rfl (.cons rfl .nil)))))), hM, (by omega)⟩
    ·
     have hs9 : alI i (k + 1) = alI i k := by rw [alI]; exact if_neg hc8
     refine Ends.skip (Ends.inBlock (Ends.region ?_))
     refine S.val hA (R.move rfl) rfl ?_; clear hA a; intro a hA
     refine S.val hA (R.addI rfl rfl (r := ((k : Int)) + 1) rfl (by omega)) rfl ?_; clear hA a; intro a hA
     refine S.val hA (R.assign rfl) rfl ?_; clear hA a; intro a hA
     refine S.done ?_
     rw [← hs9] at hA
     exact hNext1 ((k + 1)) _ _ ((by show i.n.toNat - (k + 1) < i.n.toNat - k; omega)) ⟨hA.sub ((.cons rfl (.cons rfl (.cons rfl (.cons rfl (.cons rfl .nil)))))), hM, (by omega)⟩
   ·
    refine Ends.drawn (Mem w nof [rd la lc l, pt b3 ((ints (flS i l m).1)) 3, pt b1 #[.int .i64 i.kind, .int .i64 i.n, .int .i64 i.cap, .slice ax3 i.wt.length cx3, .slice ax4 i.vl.length cx4, .slice ax5 i.cost.length cx5] 25]) (.cons (0, true) (.cons (1, true) (.cons (2, true) (.cons (3, true) (.cons (4, true) (.cons (5, true) (.cons (6, true) (.cons (7, true) (.cons (8, true) (.cons (9, true) (.cons (10, true) (.cons (11, true) (.cons (12, true) (.cons (13, true) (.cons (14, true) (.cons (15, true) (.cons (16, true) (.cons (17, true) (.cons (18, true) (.cons (19, true) (.cons (20, true) (.cons (21, true) (.cons (22, true) (.cons (23, true) (.cons (24, true) .nil))))))))))))))))))))))))) 25 mixed (by kernel_rfl) (by kernel_rfl) (by kernel_rfl) hM.drew ?_
    replace hM := hM.drew
    refine D.valF hA rfl (fun _ => R.fieldAddr (q := 3) fi25_3 rfl rfl rfl) rfl ?_; clear hA a; intro a hA
    refine D.val hA rfl (by kernel_rfl) (fun _ hM => R.load sz22 rfl (hM.cell (k := 2) rfl rfl)) rfl ?_; clear hA a; intro a hA
    refine D.valF hA rfl (fun _ => R.move rfl) rfl ?_; clear hA a; intro a hA
    refine D.valF hA rfl (fun _ => R.idxI hx3 (j := k) sl22 rfl rfl (by omega) (rfl)) rfl ?_; clear hA a; intro a hA
    refine D.val hA rfl (by kernel_rfl) (fun _ hM => R.loadI (hx3.mem hM) sz3 rfl (by omega)) rfl ?_; clear hA a; intro a hA
    refine D.valF hA rfl (fun _ => R.fieldAddr (q := 2) fi25_2 rfl rfl rfl) rfl ?_; clear hA a; intro a hA
    refine D.val hA rfl (by kernel_rfl) (fun _ hM => R.load sz3 rfl (hM.cell (k := 2) rfl rfl)) rfl ?_; clear hA a; intro a hA
    refine D.valF hA rfl (fun _ => R.leq rfl rfl) rfl ?_; clear hA a; intro a hA
    refine D.valF hA rfl (fun _ => R.move rfl) rfl ?_; clear hA a; intro a hA
    refine hA.split (d := 80) rfl ?_ ?_
    ·
     clear hA; intro hg9 hA
     refine D.valgF (dj := 80) hA rfl (by kernel_rfl) rfl (fun _ => R.move rfl) rfl ?_; clear hA a; intro a hA
     refine D.valgF (dj := 80) hA rfl (by kernel_rfl) rfl (fun _ => R.lss rfl rfl) rfl ?_; clear hA a; intro a hA
     refine D.valgF (dj := 80) hA rfl (by kernel_rfl) rfl (fun _ => R.move rfl) rfl ?_; clear hA a; intro a hA
     refine hA.split (d := 83) rfl ?_ ?_
     ·
      clear hA; intro hg10 hA
      refine D.no (dj := 83) hA rfl (by kernel_rfl) rfl rfl rfl ?_; clear hA a; intro a hA
      refine D.no (dj := 83) hA rfl (by kernel_rfl) rfl rfl rfl ?_; clear hA a; intro a hA
      refine D.no (dj := 83) hA rfl (by kernel_rfl) rfl rfl rfl ?_; clear hA a; intro a hA
      refine D.no (dj := 83) hA rfl (by kernel_rfl) rfl rfl rfl ?_; clear hA a; intro a hA
      refine D.no (dj := 83) hA rfl (by kernel_rfl) rfl rfl rfl ?_; clear hA a; intro a hA
      refine D.no (dj := 83) hA rfl (by kernel_rfl) rfl rfl rfl ?_; clear hA a; intro a hA
      refine D.no (dj := 83) hA rfl (by kernel_rfl) rfl rfl rfl ?_; clear hA a; intro a hA
      refine D.no (dj := 83) hA rfl (by kernel_rfl) rfl rfl rfl ?_; clear hA a; intro a hA
      refine D.no (dj := 83) hA rfl (by kernel_rfl) rfl rfl rfl ?_; clear hA a; intro a hA
      refine D.no (dj := 83) hA rfl (by kernel_rfl) rfl rfl rfl ?_; clear hA a; intro a hA
      refine D.no (dj := 83) hA rfl (by kernel_rfl) rfl rfl rfl ?_; clear hA a; intro a hA
      refine D.valgF (dj := 80) hA rfl (by kernel_rfl) rfl (fun _ => R.pickT rfl rfl) rfl ?_; clear hA a; intro a hA
      refine D.valF hA rfl (fun _ => R.pickT rfl rfl) rfl ?_; clear hA a; intro a hA
      refine D.done ?_
      replace hA : St 116 [(1, _), (3, _), (7, _), (9, _), (10, _), (96, _)] a := hA.sub ((.cons rfl (.cons rfl (.cons rfl (.cons rfl (.cons rfl (.cons rfl .nil)))))))
      exact hJ _ _ ⟨hA.sub (.cons rfl (.cons rfl (.cons rfl (.cons rfl (.cons rfl (.cons (by first | rfl | exact congrArg (fun b => some (Value.bool b)) (by first | exact decide_eq_decide.2 (by omega) | exact or_bool (by omega) | exact and_bool (by omega) | (simp; done) | (simp [hg9, hg10]; done) | (have h80 := hg9; (try simp at h80); have h81 := hg10; (try simp at h81); simp [h80, h81]; done) | exact (decide_eq_false (fun h9 => hg9 h9.1)).symm | exact (decide_eq_false (fun h9 => hg10 h9.1)).symm)) .nil)))))), hM⟩
     ·
      clear hA; intro hg10 hA
      refine D.valgF (dj := 83) hA rfl (by kernel_rfl) rfl (fun _ => R.fieldAddr (q := 4) fi25_4 rfl rfl rfl) rfl ?_; clear hA a; intro a hA
      refine D.valg (dj := 83) hA rfl (by kernel_rfl) (by kernel_rfl) rfl (fun _ hM => R.load sz22 rfl (hM.cell (k := 2) rfl rfl)) rfl ?_; clear hA a; intro a hA
      refine D.valgF (dj := 83) hA rfl (by kernel_rfl) rfl (fun _ => R.move rfl) rfl ?_; clear hA a; intro a hA
      refine D.valgF (dj := 83) hA rfl (by kernel_rfl) rfl (fun _ => R.idxI hx4 (j := k) sl22 rfl rfl (by omega) (rfl)) rfl ?_; clear hA a; intro a hA
      refine D.valg (dj := 83) hA rfl (by kernel_rfl) (by kernel_rfl) rfl (fun _ hM => R.loadI (hx4.mem hM) sz3 rfl (by omega)) rfl ?_; clear hA a; intro a hA
      refine D.valgF (dj := 83) hA rfl (by kernel_rfl) rfl (fun _ => R.fieldAddr (q := 4) fi25_4 rfl rfl rfl) rfl ?_; clear hA a; intro a hA
      refine D.valg (dj := 83) hA rfl (by kernel_rfl) (by kernel_rfl) rfl (fun _ hM => R.load sz22 rfl (hM.cell (k := 2) rfl rfl)) rfl ?_; clear hA a; intro a hA
      refine D.valgF (dj := 83) hA rfl (by kernel_rfl) rfl (fun _ => R.move rfl) rfl ?_; clear hA a; intro a hA
      refine D.valgF (dj := 83) hA rfl (by kernel_rfl) rfl (fun _ => R.idxI hx4 (j := (alI i k).toNat) sl22 rfl rfl (by omega) (rfl)) rfl ?_; clear hA a; intro a hA
      refine D.valg (dj := 83) hA rfl (by kernel_rfl) (by kernel_rfl) rfl (fun _ hM => R.loadI (hx4.mem hM) sz3 rfl (by omega)) rfl ?_; clear hA a; intro a hA
      refine D.valgF (dj := 83) hA rfl (by kernel_rfl) rfl (fun _ => R.gtr rfl rfl) rfl ?_; clear hA a; intro a hA
      refine D.valgF (dj := 80) hA rfl (by kernel_rfl) rfl (fun _ => R.pickF rfl rfl) rfl ?_; clear hA a; intro a hA
      refine D.valF hA rfl (fun _ => R.pickT rfl rfl) rfl ?_; clear hA a; intro a hA
      refine D.done ?_
      replace hA : St 116 [(1, _), (3, _), (7, _), (9, _), (10, _), (96, _)] a := hA.sub ((.cons rfl (.cons rfl (.cons rfl (.cons rfl (.cons rfl (.cons rfl .nil)))))))
      exact hJ _ _ ⟨hA.sub (.cons rfl (.cons rfl (.cons rfl (.cons rfl (.cons rfl (.cons (by first | rfl | exact congrArg (fun b => some (Value.bool b)) (by first | exact decide_eq_decide.2 (by omega) | exact or_bool (by omega) | exact and_bool (by omega) | (simp; done) | (simp [hg9, hg10]; done) | (have h80 := hg9; (try simp at h80); have h81 := hg10; (try simp at h81); simp [h80, h81]; done) | exact (decide_eq_false (fun h9 => hg9 h9.1)).symm | exact (decide_eq_false (fun h9 => hg10 h9.1)).symm)) .nil)))))), hM⟩
    ·
     clear hA; intro hg9 hA
     refine D.no (dj := 80) hA rfl (by kernel_rfl) rfl rfl rfl ?_; clear hA a; intro a hA
     refine D.no (dj := 80) hA rfl (by kernel_rfl) rfl rfl rfl ?_; clear hA a; intro a hA
     refine D.no (dj := 80) hA rfl (by kernel_rfl) rfl rfl rfl ?_; clear hA a; intro a hA
     refine D.noU (dj := 83) hA rfl (by kernel_rfl) rfl rfl ?_; clear hA a; intro a hA
     refine D.noU (dj := 83) hA rfl (by kernel_rfl) rfl rfl ?_; clear hA a; intro a hA
     refine D.noU (dj := 83) hA rfl (by kernel_rfl) rfl rfl ?_; clear hA a; intro a hA
     refine D.noU (dj := 83) hA rfl (by kernel_rfl) rfl rfl ?_; clear hA a; intro a hA
     refine D.noU (dj := 83) hA rfl (by kernel_rfl) rfl rfl ?_; clear hA a; intro a hA
     refine D.noU (dj := 83) hA rfl (by kernel_rfl) rfl rfl ?_; clear hA a; intro a hA
     refine D.noU (dj := 83) hA rfl (by kernel_rfl) rfl rfl ?_; clear hA a; intro a hA
     refine D.noU (dj := 83) hA rfl (by kernel_rfl) rfl rfl ?_; clear hA a; intro a hA
     refine D.noU (dj := 83) hA rfl (by kernel_rfl) rfl rfl ?_; clear hA a; intro a hA
     refine D.noU (dj := 83) hA rfl (by kernel_rfl) rfl rfl ?_; clear hA a; intro a hA
     refine D.noU (dj := 83) hA rfl (by kernel_rfl) rfl rfl ?_; clear hA a; intro a hA
     refine D.no (dj := 80) hA rfl (by kernel_rfl) rfl rfl rfl ?_; clear hA a; intro a hA
     refine D.valF hA rfl (fun _ => R.pickF rfl rfl) rfl ?_; clear hA a; intro a hA
     refine D.done ?_
     replace hA : St 116 [(1, _), (3, _), (7, _), (9, _), (10, _), (96, _)] a := hA.sub ((.cons rfl (.cons rfl (.cons rfl (.cons rfl (.cons rfl (.cons rfl .nil)))))))
     exact hJ _ _ ⟨hA.sub (.cons rfl (.cons rfl (.cons rfl (.cons rfl (.cons rfl (.cons (by first | rfl | exact congrArg (fun b => some (Value.bool b)) (by first | exact decide_eq_decide.2 (by omega) | exact or_bool (by omega) | exact and_bool (by omega) | (simp; done) | (simp [hg9]; done) | (have h80 := hg9; (try simp at h80); simp [h80]; done) | exact (decide_eq_false (fun h9 => hg9 h9.1)).symm)) .nil)))))), hM⟩
  ·
   have hab := hal k
   have hke : k = i.n.toNat := by omega
   refine Ends.exit rfl ?_
   replace hA : St 116 [(1, _), (3, _), (7, _), (9, _)] a := hA.sub ((.cons rfl (.cons rfl (.cons rfl (.cons rfl .nil)))))
   refine Ends.seq (Ends.seq ?_)
   refine Ends.cut (fun (a : Act) (wv : World) => St 116 [(1, .pointer (some ⟨b1, 0, none⟩)), (3, .slice (some ⟨b3, 0, none⟩) i.n.toNat i.n.toNat), (9, .int .i64 (alI i k)), (108, .bool (decide ((0 ≤ (alI i k) ∧ ((flS i l m).2.2) < (i.vl.getD ((alI i k).toNat) 0)))))] a ∧ Mem w nof [rd la lc l, pt b3 ((ints (flS i l m).1)) 3, pt b1 #[.int .i64 i.kind, .int .i64 i.n, .int .i64 i.cap, .slice ax3 i.wt.length cx3, .slice ax4 i.vl.length cx4, .slice ax5 i.cost.length cx5] 25] wv) ?_ (fun k2 hJ => ?_)
   ·
    clear hA hM a; rintro a w8 ⟨hA, hM⟩
    refine Ends.ite hA rfl (fun hc11 => ?_) (fun hc11 => ?_)
    ·
     have hk9 := hc11
     rw [hme, hke, ← hl] at hk9
     refine Ends.seq (Ends.region ?_)
     refine S.val hA (R.fieldAddr (q := 1) fi25_1 rfl rfl rfl) rfl ?_; clear hA a; intro a hA
     refine S.val hA (R.load sz3 rfl (hM.cell (k := 2) rfl rfl)) rfl ?_; clear hA a; intro a hA
     refine S.make hA hM Try.underlying22 info3 rfl rfl rfl (by omega) (by show (8 : Int) * _ ≤ _; omega) (by omega) rfl ?_; clear hA hM a; intro b12 w9 hb13 hM a hA
     replace hM : Mem _ _ [pt b12 (madeCells #[.int .i64 0] (i.n.toNat * 1)) 3, rd la lc l, pt b3 ((ints (flS i l m).1)) 3, pt b1 #[.int .i64 i.kind, .int .i64 i.n, .int .i64 i.cap, .slice ax3 i.wt.length cx3, .slice ax4 i.vl.length cx4, .slice ax5 i.cost.length cx5] 25] _ := hM
     rw [Nat.mul_one, made_ints] at hM
     replace hM : Mem _ _ [pt b12 ((ints (List.replicate i.n.toNat 0))) 3, rd la lc l, pt b3 ((ints (flS i l m).1)) 3, pt b1 #[.int .i64 i.kind, .int .i64 i.n, .int .i64 i.cap, .slice ax3 i.wt.length cx3, .slice ax4 i.vl.length cx4, .slice ax5 i.cost.length cx5] 25] _ := hM
     refine S.val hA (R.assign rfl) rfl ?_; clear hA a; intro a hA
     refine S.done ?_
     replace hA : St 116 [(3, _), (9, _)] a := hA.sub ((.cons rfl (.cons rfl .nil)))
     refine Ends.region ?_
     refine S.val hA (R.move rfl) rfl ?_; clear hA a; intro a hA
     refine S.val hA (R.move rfl) rfl ?_; clear hA a; intro a hA
     refine S.val hA (R.indexAddr (q := (alI i k).toNat) sl22 rfl rfl (by omega) (by omega)) rfl ?_; clear hA a; intro a hA
     refine S.store (k := 0) hA hM sz3 rfl rfl rfl rfl (ints_getD ((List.replicate i.n.toNat 0)) _ (by omega)) ?_; clear hM
     intro w10 hM
     rw [ints_set] at hM
     replace hM : Mem _ _ [pt b12 ((ints (((List.replicate i.n.toNat 0)).set ((alI i k).toNat) 1))) 3, rd la lc l, pt b3 ((ints (flS i l m).1)) 3, pt b1 #[.int .i64 i.kind, .int .i64 i.n, .int .i64 i.cap, .slice ax3 i.wt.length cx3, .slice ax4 i.vl.length cx4, .slice ax5 i.cost.length cx5] 25] _ := hM
     refine S.done ?_
     replace hA : St 116 [(3, _)] a := hA.sub ((.cons rfl .nil))
     refine Ends.seq (Ends.region ?_)
     refine S.val hA (R.move rfl) rfl ?_; clear hA a; intro a hA
     refine S.val hA (R.assign rfl) rfl ?_; clear hA a; intro a hA
     refine S.done ?_
     refine Ends.ret1 Try.func48 Try.results48 hA rfl ?_
     rw [hke] at hM
     have he : knS i = (List.replicate i.n.toNat 0).set (alI i i.n.toNat).toNat 1 := if_pos hk9
     have hkl := knS_len i
     rw [← he] at hM
     have hr := hM.ptRs (k := 0) (X := knS i) rfl (by omega)
     rw [hkl] at hr
     exact ⟨_, _, by rw [hkl], by rw [hkl]; exact hr, Mem.trans0 hbs hM.nilL⟩
    ·
     have hk9 := hc11
     rw [hme, hke, ← hl] at hk9
     refine Ends.skip (Ends.seq (Ends.region ?_))
     refine S.val hA (R.move rfl) rfl ?_; clear hA a; intro a hA
     refine S.val hA (R.assign rfl) rfl ?_; clear hA a; intro a hA
     refine S.done ?_
     replace hA : St 116 [(2, _)] a := hA.sub ((.cons rfl .nil))
     refine Ends.ret1 Try.func48 Try.results48 hA rfl ?_
     rw [hme] at hM
     have he : knS i = (flS i (byQ i.vl i.wt) i.n.toNat).1 := if_neg hk9
     rw [hl] at he
     have hkl := knS_len i
     rw [← he] at hM
     have hr := hM.ptRs (k := 1) (X := knS i) rfl (by omega)
     rw [hkl] at hr
     exact ⟨_, _, by rw [hkl], by rw [hkl]; exact hr, Mem.trans0 hbs hM.nilL⟩
   ·
    refine Ends.region ?_
    refine S.val hA (R.move rfl) rfl ?_; clear hA a; intro a hA
    refine S.val hA (R.geq rfl rfl) rfl ?_; clear hA a; intro a hA
    refine S.val hA (R.move rfl) rfl ?_; clear hA a; intro a hA
    refine hA.split (d := 100) rfl ?_ ?_
    ·
     clear hA; intro hg14 hA
     refine S.valg (dj := 100) hA (by kernel_rfl) rfl (R.fieldAddr (q := 4) fi25_4 rfl rfl rfl) rfl ?_; clear hA a; intro a hA
     refine S.valg (dj := 100) hA (by kernel_rfl) rfl (R.load sz22 rfl (hM.cell (k := 2) rfl rfl)) rfl ?_; clear hA a; intro a hA
     refine S.valg (dj := 100) hA (by kernel_rfl) rfl (R.move rfl) rfl ?_; clear hA a; intro a hA
     refine S.valg (dj := 100) hA (by kernel_rfl) rfl (R.idxI hx4 (j := (alI i k).toNat) sl22 rfl rfl (by omega) (rfl)) rfl ?_; clear hA a; intro a hA
     refine S.valg (dj := 100) hA (by kernel_rfl) rfl (R.loadI (hx4.mem hM) sz3 rfl (by omega)) rfl ?_; clear hA a; intro a hA
     refine S.valg (dj := 100) hA (by kernel_rfl) rfl (R.move rfl) rfl ?_; clear hA a; intro a hA
     refine S.valg (dj := 100) hA (by kernel_rfl) rfl (R.gtr rfl rfl) rfl ?_; clear hA a; intro a hA
     refine S.val hA (R.pickT rfl rfl) rfl ?_; clear hA a; intro a hA
     refine S.done ?_
     replace hA : St 116 [(1, _), (3, _), (9, _), (108, _)] a := hA.sub ((.cons rfl (.cons rfl (.cons rfl (.cons rfl .nil)))))
     exact hJ _ _ ⟨hA.sub (.cons rfl (.cons rfl (.cons rfl (.cons (by first | rfl | exact congrArg (fun b => some (Value.bool b)) (by first | exact decide_eq_decide.2 (by omega) | exact or_bool (by omega) | exact and_bool (by omega) | (simp; done) | (simp [hg14]; done) | (have h80 := hg14; (try simp at h80); simp [h80]; done) | exact (decide_eq_false (fun h9 => hg14 h9.1)).symm)) .nil)))), hM⟩
    ·
     clear hA; intro hg14 hA
     refine S.no (dj := 100) hA (by kernel_rfl) rfl rfl rfl ?_; clear hA a; intro a hA
     refine S.no (dj := 100) hA (by kernel_rfl) rfl rfl rfl ?_; clear hA a; intro a hA
     refine S.no (dj := 100) hA (by kernel_rfl) rfl rfl rfl ?_; clear hA a; intro a hA
     refine S.no (dj := 100) hA (by kernel_rfl) rfl rfl rfl ?_; clear hA a; intro a hA
     refine S.no (dj := 100) hA (by kernel_rfl) rfl rfl rfl ?_; clear hA a; intro a hA
     refine S.no (dj := 100) hA (by kernel_rfl) rfl rfl rfl ?_; clear hA a; intro a hA
     refine S.no (dj := 100) hA (by kernel_rfl) rfl rfl rfl ?_; clear hA a; intro a hA
     refine S.val hA (R.pickF rfl rfl) rfl ?_; clear hA a; intro a hA
     refine S.done ?_
     replace hA : St 116 [(1, _), (3, _), (9, _), (108, _)] a := hA.sub ((.cons rfl (.cons rfl (.cons rfl (.cons rfl .nil)))))
     exact hJ _ _ ⟨hA.sub (.cons rfl (.cons rfl (.cons rfl (.cons (by first | rfl | exact congrArg (fun b => some (Value.bool b)) (by first | exact decide_eq_decide.2 (by omega) | exact or_bool (by omega) | exact and_bool (by omega) | (simp; done) | (simp [hg14]; done) | (have h80 := hg14; (try simp at h80); simp [h80]; done) | exact (decide_eq_false (fun h9 => hg14 h9.1)).symm)) .nil)))), hM⟩
set_option maxRecDepth 100000 in
set_option maxHeartbeats 400000 in
theorem cheap10 (ax : Option Addr) (V : List Int) (cx : Nat) (ub : Nat) (U : List Bool) (X : List Int) (n : Nat) (hRn : V.length = n) (hus : usOK X n U) (w : World) (hx : IntSl w (.slice ax V.length cx) V) (hqub : w.heap[ub]? = some (.cells (boo U) 4 (0, 0))) :
  Calls Try.prog 64 #[.slice ax V.length cx, .slice (some ⟨ub, 0, none⟩) n n] w fun e w' => e = .returned (.int .i64 (chI V X n)) ∧ Below w.heap.size w w' := by
 have hbs := Below.refl (B := w.heap.size) w
 have hlR := hx.lenB
 have hUl := hus.1
 have hM := Mem.start w
 refine Calls.of_ends (vs := [.slice ax V.length cx, .slice (some ⟨ub, 0, none⟩) n n]) Try.func64 rfl Try.ntmps64 rfl ?_
 intro a hA
 replace hA : St 35 [(0, _), (1, _)] a := hA
 refine Ends.seq (Ends.region ?_)
 refine S.val hA (R.assign rfl) rfl ?_; clear hA a; intro a hA
 refine S.done ?_
 refine Ends.seq (Ends.region ?_)
 refine S.val hA (R.to (v := .int .i64 (chI V X 0)) (R.assign rfl) (rfl)) rfl ?_; clear hA a; intro a hA
 refine S.done ?_
 refine Ends.seq (Ends.seq (Ends.region ?_))
 refine S.val hA (R.move rfl) rfl ?_; clear hA a; intro a hA
 refine S.val hA (R.lenS Try.underlying22 rfl rfl) rfl ?_; clear hA a; intro a hA
 refine S.val hA (R.move rfl) rfl ?_; clear hA a; intro a hA
 refine S.done ?_
 refine Ends.block ?_
 refine Ends.loop (σ := Nat) (fun k (a : Act) (wv : World) => St 35 [(0, .slice ax V.length cx), (1, .slice (some ⟨ub, 0, none⟩) n n), (5, .int .i64 (chI V X k)), (8, .slice ax V.length cx), (9, .int .i64 ((V.length : Int))), (10, .int .i64 ((k : Int)))] a ∧ Mem w nof [] wv ∧ (k ≤ n)) (fun k => n - k) 0 ⟨hA.sub ((.cons rfl (.cons rfl (.cons rfl (.cons rfl (.cons rfl (.cons rfl .nil))))))), hM, (Nat.zero_le _)⟩ ?_
 clear hA hM a
 rintro k a w1 ⟨hA, hM, hkk⟩ hNext
 refine Ends.seq (Ends.region ?_)
 refine S.val hA (R.lss rfl rfl) rfl ?_; clear hA a; intro a hA
 refine S.done ?_
 refine Ends.seq ?_
 refine Ends.ite hA rfl (fun hc1 => ?_) (fun hc1 => ?_)
 ·
  have hcb := chI_bd V X k
  have hu := hus.2 k (by omega)
  refine Ends.skip (Ends.seq (Ends.block (Ends.seq (Ends.region ?_))))
  refine S.val hA (R.move rfl) rfl ?_; clear hA a; intro a hA
  refine S.val hA (R.idxI hx (j := k) sl22 rfl rfl (by omega) (rfl)) rfl ?_; clear hA a; intro a hA
  refine S.val hA (R.loadI (hx.mem hM) sz3 rfl (by omega)) rfl ?_; clear hA a; intro a hA
  refine S.val hA (R.assign rfl) rfl ?_; clear hA a; intro a hA
  refine S.val hA (R.assign rfl) rfl ?_; clear hA a; intro a hA
  refine S.done ?_
  replace hA : St 35 [(0, _), (1, _), (5, _), (6, _), (7, _), (8, _), (9, _), (10, _)] a := hA.sub ((.cons rfl (.cons rfl (.cons rfl (.cons rfl (.cons rfl (.cons rfl (.cons rfl (.cons rfl .nil)))))))))
  refine Ends.seq ?_
  refine Ends.cut (fun (a : Act) (wv : World) => St 35 [(0, .slice ax V.length cx), (1, .slice (some ⟨ub, 0, none⟩) n n), (5, .int .i64 (chI V X k)), (6, .int .i64 ((k : Int))), (8, .slice ax V.length cx), (9, .int .i64 ((V.length : Int))), (10, .int .i64 ((k : Int))), (31, .bool (decide ((¬ ((k : Int) ∈ X) ∧ ((chI V X k) < 0 ∨ (V.getD k 0) < (V.getD ((chI V X k).toNat) 0))))))] a ∧ Mem w nof [] wv) ?_ (fun k2 hJ => ?_)
  ·
   clear hA hM a; rintro a w2 ⟨hA, hM⟩
   refine Ends.ite hA rfl (fun hc2 => ?_) (fun hc2 => ?_)
   ·
    have hs9 : chI V X (k + 1) = (k : Int) := by
     rw [chI]; exact if_pos hc2
    refine Ends.region ?_
    refine S.val hA (R.move rfl) rfl ?_; clear hA a; intro a hA
    refine S.val hA (R.to (v := .int .i64 (chI V X (k + 1))) (R.assign rfl) (congrArg (Value.int .i64) hs9.symm)) rfl ?_; clear hA a; intro a hA
    refine S.done ?_
    refine Ends.inBlock (Ends.region ?_)
    refine S.val hA (R.addI rfl rfl (r := ((k : Int)) + 1) rfl (by omega)) rfl ?_; clear hA a; intro a hA
    refine S.val hA (R.move rfl) rfl ?_; clear hA a; intro a hA
    refine S.done ?_
    replace hA : St 35 [(0, _), (1, _), (5, _), (8, _), (9, _), (10, _)] a := hA.sub ((.cons rfl (.cons rfl (.cons rfl (.cons rfl (.cons rfl (.cons rfl .nil)))))))
    exact hNext ((k + 1)) _ _ ((by show n - (k + 1) < n - k; omega)) ⟨hA.sub ((.cons rfl (.cons rfl (.cons rfl (.cons rfl (.cons rfl (.cons rfl .nil))))))), hM, (by omega)⟩
   ·
    have hs9 : chI V X (k + 1) = chI V X k := by
     rw [chI]; exact if_neg hc2
    refine Ends.skip (Ends.inBlock (Ends.region ?_))
    refine S.val hA (R.addI rfl rfl (r := ((k : Int)) + 1) rfl (by omega)) rfl ?_; clear hA a; intro a hA
    refine S.val hA (R.move rfl) rfl ?_; clear hA a; intro a hA
    refine S.done ?_
    rw [← hs9] at hA
    exact hNext ((k + 1)) _ _ ((by show n - (k + 1) < n - k; omega)) ⟨hA.sub ((.cons rfl (.cons rfl (.cons rfl (.cons rfl (.cons rfl (.cons rfl .nil))))))), hM, (by omega)⟩
  ·
   refine Ends.region ?_
   refine S.val hA (R.move rfl) rfl ?_; clear hA a; intro a hA
   refine S.val hA (R.move rfl) rfl ?_; clear hA a; intro a hA
   refine S.val hA (R.indexAddr (q := k) sl68 rfl rfl (by omega) (by omega)) rfl ?_; clear hA a; intro a hA
   refine S.val hA (R.to (v := .bool (decide ((k : Int) ∈ X))) (R.load sz4 rfl (hM.cellB hqub (boo_get U k (by omega)))) (congrArg Value.bool hu)) rfl ?_; clear hA a; intro a hA
   refine S.val hA (R.notD rfl) rfl ?_; clear hA a; intro a hA
   refine S.val hA (R.move rfl) rfl ?_; clear hA a; intro a hA
   refine hA.split (d := 20) rfl ?_ ?_
   ·
    clear hA; intro hg3 hA
    refine S.valg (dj := 20) hA (by kernel_rfl) rfl (R.move rfl) rfl ?_; clear hA a; intro a hA
    refine S.valg (dj := 20) hA (by kernel_rfl) rfl (R.lss rfl rfl) rfl ?_; clear hA a; intro a hA
    refine S.valg (dj := 20) hA (by kernel_rfl) rfl (R.move rfl) rfl ?_; clear hA a; intro a hA
    refine hA.split (d := 23) rfl ?_ ?_
    ·
     clear hA; intro hg4 hA
     refine S.no (dj := 23) hA (by kernel_rfl) rfl rfl rfl ?_; clear hA a; intro a hA
     refine S.no (dj := 23) hA (by kernel_rfl) rfl rfl rfl ?_; clear hA a; intro a hA
     refine S.no (dj := 23) hA (by kernel_rfl) rfl rfl rfl ?_; clear hA a; intro a hA
     refine S.no (dj := 23) hA (by kernel_rfl) rfl rfl rfl ?_; clear hA a; intro a hA
     refine S.no (dj := 23) hA (by kernel_rfl) rfl rfl rfl ?_; clear hA a; intro a hA
     refine S.no (dj := 23) hA (by kernel_rfl) rfl rfl rfl ?_; clear hA a; intro a hA
     refine S.valg (dj := 20) hA (by kernel_rfl) rfl (R.pickT rfl rfl) rfl ?_; clear hA a; intro a hA
     refine S.val hA (R.pickT rfl rfl) rfl ?_; clear hA a; intro a hA
     refine S.done ?_
     replace hA : St 35 [(0, _), (1, _), (5, _), (6, _), (8, _), (9, _), (10, _), (31, _)] a := hA.sub ((.cons rfl (.cons rfl (.cons rfl (.cons rfl (.cons rfl (.cons rfl (.cons rfl (.cons rfl .nil)))))))))
     exact hJ _ _ ⟨hA.sub (.cons rfl (.cons rfl (.cons rfl (.cons rfl (.cons rfl (.cons rfl (.cons rfl (.cons (by first | rfl | exact congrArg (fun b => some (Value.bool b)) (by first | exact decide_eq_decide.2 (by omega) | exact or_bool (by omega) | exact and_bool (by omega) | (simp; done) | (simp [hg3, hg4]; done) | (have h80 := hg3; (try simp at h80); have h81 := hg4; (try simp at h81); simp [h80, h81]; done) | exact (decide_eq_false (fun h9 => hg3 h9.1)).symm | exact (decide_eq_false (fun h9 => hg4 h9.1)).symm)) .nil)))))))), hM⟩
    ·
     clear hA; intro hg4 hA
     refine S.valg (dj := 23) hA (by kernel_rfl) rfl (R.move rfl) rfl ?_; clear hA a; intro a hA
     refine S.valg (dj := 23) hA (by kernel_rfl) rfl (R.move rfl) rfl ?_; clear hA a; intro a hA
     refine S.valg (dj := 23) hA (by kernel_rfl) rfl (R.move rfl) rfl ?_; clear hA a; intro a hA
     refine S.valg (dj := 23) hA (by kernel_rfl) rfl (R.idxI hx (j := (chI V X k).toNat) sl22 rfl rfl (by omega) (rfl)) rfl ?_; clear hA a; intro a hA
     refine S.valg (dj := 23) hA (by kernel_rfl) rfl (R.loadI (hx.mem hM) sz3 rfl (by omega)) rfl ?_; clear hA a; intro a hA
     refine S.valg (dj := 23) hA (by kernel_rfl) rfl (R.lss rfl rfl) rfl ?_; clear hA a; intro a hA
     refine S.valg (dj := 20) hA (by kernel_rfl) rfl (R.pickF rfl rfl) rfl ?_; clear hA a; intro a hA
     refine S.val hA (R.pickT rfl rfl) rfl ?_; clear hA a; intro a hA
     refine S.done ?_
     replace hA : St 35 [(0, _), (1, _), (5, _), (6, _), (8, _), (9, _), (10, _), (31, _)] a := hA.sub ((.cons rfl (.cons rfl (.cons rfl (.cons rfl (.cons rfl (.cons rfl (.cons rfl (.cons rfl .nil)))))))))
     exact hJ _ _ ⟨hA.sub (.cons rfl (.cons rfl (.cons rfl (.cons rfl (.cons rfl (.cons rfl (.cons rfl (.cons (by first | rfl | exact congrArg (fun b => some (Value.bool b)) (by first | exact decide_eq_decide.2 (by omega) | exact or_bool (by omega) | exact and_bool (by omega) | (simp; done) | (simp [hg3, hg4]; done) | (have h80 := hg3; (try simp at h80); have h81 := hg4; (try simp at h81); simp [h80, h81]; done) | exact (decide_eq_false (fun h9 => hg3 h9.1)).symm | exact (decide_eq_false (fun h9 => hg4 h9.1)).symm)) .nil)))))))), hM⟩
   ·
    clear hA; intro hg3 hA
    refine S.no (dj := 20) hA (by kernel_rfl) rfl rfl rfl ?_; clear hA a; intro a hA
    refine S.no (dj := 20) hA (by kernel_rfl) rfl rfl rfl ?_; clear hA a; intro a hA
    refine S.no (dj := 20) hA (by kernel_rfl) rfl rfl rfl ?_; clear hA a; intro a hA
    refine S.noU (dj := 23) hA (by kernel_rfl) rfl rfl ?_; clear hA a; intro a hA
    refine S.noU (dj := 23) hA (by kernel_rfl) rfl rfl ?_; clear hA a; intro a hA
    refine S.noU (dj := 23) hA (by kernel_rfl) rfl rfl ?_; clear hA a; intro a hA
    refine S.noU (dj := 23) hA (by kernel_rfl) rfl rfl ?_; clear hA a; intro a hA
    refine S.noU (dj := 23) hA (by kernel_rfl) rfl rfl ?_; clear hA a; intro a hA
    refine S.noU (dj := 23) hA (by kernel_rfl) rfl rfl ?_; clear hA a; intro a hA
    refine S.no (dj := 20) hA (by kernel_rfl) rfl rfl rfl ?_; clear hA a; intro a hA
    refine S.val hA (R.pickF rfl rfl) rfl ?_; clear hA a; intro a hA
    refine S.done ?_
    replace hA : St 35 [(0, _), (1, _), (5, _), (6, _), (8, _), (9, _), (10, _), (31, _)] a := hA.sub ((.cons rfl (.cons rfl (.cons rfl (.cons rfl (.cons rfl (.cons rfl (.cons rfl (.cons rfl .nil)))))))))
    exact hJ _ _ ⟨hA.sub (.cons rfl (.cons rfl (.cons rfl (.cons rfl (.cons rfl (.cons rfl (.cons rfl (.cons (by first | rfl | exact congrArg (fun b => some (Value.bool b)) (by first | exact decide_eq_decide.2 (by omega) | exact or_bool (by omega) | exact and_bool (by omega) | (simp; done) | (simp [hg3]; done) | (have h80 := hg3; (try simp at h80); simp [h80]; done) | exact (decide_eq_false (fun h9 => hg3 h9.1)).symm)) .nil)))))))), hM⟩
 ·
  have hke : k = n := by omega
  refine Ends.exit rfl ?_
  replace hA : St 35 [(5, _)] a := hA.sub ((.cons rfl .nil))
  refine Ends.seq (Ends.region ?_)
  refine S.val hA (R.move rfl) rfl ?_; clear hA a; intro a hA
  refine S.val hA (R.assign rfl) rfl ?_; clear hA a; intro a hA
  refine S.done ?_
  refine Ends.ret1 Try.func64 Try.results64 hA rfl ?_
  exact ⟨by rw [hke], Mem.trans0 hbs hM.nilL⟩
set_option maxRecDepth 100000 in
set_option maxHeartbeats 400000 in
theorem rows10 (i : Ins) (ax3 : Option Addr) (cx3 : Nat) (ax4 : Option Addr) (cx4 : Nat) (ax5 : Option Addr) (cx5 : Nat) (hF : InF i) (hk1 : ¬ i.kind = 1) (w : World) (hx3 : IntSl w (.slice ax3 i.wt.length cx3) i.wt) (hx4 : IntSl w (.slice ax4 i.vl.length cx4) i.vl) (hx5 : RowsV w (.slice ax5 i.cost.length cx5) i.cost) :
  Calls Try.prog 47 #[.agg #[.int .i64 i.kind, .int .i64 i.n, .int .i64 i.cap, .slice ax3 i.wt.length cx3, .slice ax4 i.vl.length cx4, .slice ax5 i.cost.length cx5]] w fun e w' => ∃ a c, e = .returned (.slice a ((rwA i (i.n.toNat - frm i))).length c) ∧ IntSl w' (.slice a ((rwA i (i.n.toNat - frm i))).length c) ((rwA i (i.n.toNat - frm i))) ∧ Below w.heap.size w w' := by
 have hbs := Below.refl (B := w.heap.size) w
 have f1 := hF.n1
 have f3 := hF.n64
 have f4 := hF.n24 hk1
 have f7 := hF.cost
 rw [if_neg hk1] at f7
 have hrow := fun r h => rowLn hF hk1 (r := r) h
 have hfl := frm_le i
 have hin := rwA_inc (i := i) (by omega)
 have hrp : (List.replicate i.n.toNat false).length = i.n.toNat := List.length_replicate
 have hM := Mem.start w
 refine Calls.of_ends (vs := [.agg #[.int .i64 i.kind, .int .i64 i.n, .int .i64 i.cap, .slice ax3 i.wt.length cx3, .slice ax4 i.vl.length cx4, .slice ax5 i.cost.length cx5]]) Try.func47 rfl Try.ntmps47 rfl ?_
 intro a hA
 replace hA : St 49 [(0, _)] a := hA
 refine Ends.seq (Ends.region ?_)
 refine S.box hA hM rfl rfl ?_; clear hA hM a; intro b1 w1 hb2 hM a hA
 replace hM : Mem _ _ [pt b1 #[.int .i64 i.kind, .int .i64 i.n, .int .i64 i.cap, .slice ax3 i.wt.length cx3, .slice ax4 i.vl.length cx4, .slice ax5 i.cost.length cx5] 25] _ := hM
 refine S.val hA (R.assign rfl) rfl ?_; clear hA a; intro a hA
 refine S.done ?_
 refine Ends.seq (Ends.region ?_)
 refine S.val hA (R.fieldAddr (q := 1) fi25_1 rfl rfl rfl) rfl ?_; clear hA a; intro a hA
 refine S.val hA (R.load sz3 rfl (hM.cell (k := 0) rfl rfl)) rfl ?_; clear hA a; intro a hA
 refine S.make hA hM Try.underlying68 info4 rfl rfl rfl (by omega) (by show (1 : Int) * _ ≤ _; omega) (by omega) rfl ?_; clear hA hM a; intro b3 w2 hb4 hM a hA
 replace hM : Mem _ _ [pt b3 (madeCells #[.bool false] (i.n.toNat * 1)) 4, pt b1 #[.int .i64 i.kind, .int .i64 i.n, .int .i64 i.cap, .slice ax3 i.wt.length cx3, .slice ax4 i.vl.length cx4, .slice ax5 i.cost.length cx5] 25] _ := hM
 rw [Nat.mul_one, made_boo] at hM
 replace hM : Mem _ _ [pt b3 ((boo (List.replicate i.n.toNat false))) 4, pt b1 #[.int .i64 i.kind, .int .i64 i.n, .int .i64 i.cap, .slice ax3 i.wt.length cx3, .slice ax4 i.vl.length cx4, .slice ax5 i.cost.length cx5] 25] _ := hM
 refine S.val hA (R.assign rfl) rfl ?_; clear hA a; intro a hA
 refine S.done ?_
 replace hA : St 49 [(1, _), (3, _)] a := hA.sub ((.cons rfl (.cons rfl .nil)))
 refine Ends.seq (Ends.region ?_)
 refine S.val hA (R.assign rfl) rfl ?_; clear hA a; intro a hA
 refine S.done ?_
 refine Ends.seq (Ends.seq (Ends.region ?_))
 refine S.val hA (R.fieldAddr (q := 0) fi25_0 rfl rfl rfl) rfl ?_; clear hA a; intro a hA
 refine S.val hA (R.load sz3 rfl (hM.cell (k := 1) rfl rfl)) rfl ?_; clear hA a; intro a hA
 refine S.val hA (R.eql rfl rfl) rfl ?_; clear hA a; intro a hA
 refine S.done ?_
 refine Ends.ite hA rfl (fun hc5 => ?_) (fun hc5 => ?_)
 ·
  have hk3 := hc5
  have hfr : frm i = 1 := if_pos hk3
  refine Ends.seq (Ends.region ?_)
  refine S.val hA (R.move rfl) rfl ?_; clear hA a; intro a hA
  refine S.buildSl (cells := #[.int .i64 0]) hA hM Try.underlying22 info3 rfl rfl rfl rfl (by kernel_rfl) rfl ?_; clear hA hM a; intro b6 w3 hb7 hM a hA
  replace hM : Mem _ _ [pt b6 #[.int .i64 0] 3, pt b3 ((boo (List.replicate i.n.toNat false))) 4, pt b1 #[.int .i64 i.kind, .int .i64 i.n, .int .i64 i.cap, .slice ax3 i.wt.length cx3, .slice ax4 i.vl.length cx4, .slice ax5 i.cost.length cx5] 25] _ := hM
  replace hM := hM.ownNil 3 1
  replace hM : Mem _ _ [own 3 1 (.slice none ((([] : List Int)).length) 0) ((([] : List Int)).length) ((([] : List Int)).map (Value.int .i64)), pt b6 #[.int .i64 0] 3, pt b3 ((boo (List.replicate i.n.toNat false))) 4, pt b1 #[.int .i64 i.kind, .int .i64 i.n, .int .i64 i.cap, .slice ax3 i.wt.length cx3, .slice ax4 i.vl.length cx4, .slice ax5 i.cost.length cx5] 25] _ := hM
  refine S.append (k := 0) (k2 := 1) hA hM rfl rfl Try.underlying22 info3 rfl rfl rfl rfl rfl rfl rfl rfl rfl (by first | decide | (unfold maxLen; omega) | (show (_ + 1) * 8 ≤ (140737488355328 : Nat); omega) | omega) (by first | decide | (unfold maxLen; omega) | (show (_ + 1) * 8 ≤ (140737488355328 : Nat); omega) | omega) rfl ?_; clear hA hM a; intro a8 c9 w4 hM a hA
  replace hM : Mem _ _ [own 3 1 (.slice a8 (((([] : List Int)).length) + 1) c9) (((([] : List Int)).length) + 1) ((([] : List Int)).map (Value.int .i64) ++ [.int .i64 0]), pt b6 #[.int .i64 0] 3, pt b3 ((boo (List.replicate i.n.toNat false))) 4, pt b1 #[.int .i64 i.kind, .int .i64 i.n, .int .i64 i.cap, .slice ax3 i.wt.length cx3, .slice ax4 i.vl.length cx4, .slice ax5 i.cost.length cx5] 25] _ := hM
  have hl10 : ((([] : List Int)).length) + 1 = (([] : List Int) ++ [0]).length := by simp
  rw [hl10, show (([] : List Int)).map (Value.int .i64) ++ [.int .i64 0] = (([] : List Int) ++ [0]).map (Value.int .i64) by simp] at hM; rw [hl10] at hA
  clear hl10
  replace hM := hM.drop 1
  replace hM : Mem _ _ [own 3 1 (.slice a8 (((([] : List Int) ++ [0])).length) c9) (((([] : List Int) ++ [0])).length) (((([] : List Int) ++ [0])).map (Value.int .i64)), pt b3 ((boo (List.replicate i.n.toNat false))) 4, pt b1 #[.int .i64 i.kind, .int .i64 i.n, .int .i64 i.cap, .slice ax3 i.wt.length cx3, .slice ax4 i.vl.length cx4, .slice ax5 i.cost.length cx5] 25] _ := hM
  refine S.val hA (R.assign rfl) rfl ?_; clear hA a; intro a hA
  refine S.done ?_
  replace hA : St 49 [(1, _), (3, _), (4, _)] a := hA.sub ((.cons rfl (.cons rfl (.cons rfl .nil))))
  refine Ends.region ?_
  refine S.val hA (R.move rfl) rfl ?_; clear hA a; intro a hA
  refine S.val hA (R.indexAddr (q := 0) sl68 rfl rfl (by omega) (rfl)) rfl ?_; clear hA a; intro a hA
  refine S.store (k := 1) hA hM sz4 rfl rfl rfl rfl (boo_get _ _ (by omega)) ?_; clear hM
  intro w5 hM
  rw [boo_set] at hM
  replace hM : Mem _ _ [own 3 1 (.slice a8 (((([] : List Int) ++ [0])).length) c9) (((([] : List Int) ++ [0])).length) (((([] : List Int) ++ [0])).map (Value.int .i64)), pt b3 ((boo (((List.replicate i.n.toNat false)).set 0 true))) 4, pt b1 #[.int .i64 i.kind, .int .i64 i.n, .int .i64 i.cap, .slice ax3 i.wt.length cx3, .slice ax4 i.vl.length cx4, .slice ax5 i.cost.length cx5] 25] _ := hM
  refine S.done ?_
  refine Ends.seq (Ends.block ?_)
  replace hM := hM.front (k := 2) rfl
  replace hM := hM.front (k := 2) rfl
  replace hM := hM.front (k := 2) rfl
  refine Ends.loop (σ := Nat × List Int × Option Addr × Nat × List Bool) (fun (m, X, ya, yc, U) (a : Act) (wv : World) => St 49 [(1, .pointer (some ⟨b1, 0, none⟩)), (3, .slice (some ⟨b3, 0, none⟩) i.n.toNat i.n.toNat), (4, .slice ya X.length yc)] a ∧ Mem w nof [own 3 1 (.slice ya X.length yc) X.length (X.map (Value.int .i64)), pt b3 ((boo U)) 4, pt b1 #[.int .i64 i.kind, .int .i64 i.n, .int .i64 i.cap, .slice ax3 i.wt.length cx3, .slice ax4 i.vl.length cx4, .slice ax5 i.cost.length cx5] 25] wv ∧ (frm i + m ≤ i.n.toNat) ∧ (X = rwA i m) ∧ (usOK X i.n.toNat U)) (fun (m, X, ya, yc, U) => i.n.toNat - m) ((0, [0], a8, c9, (((List.replicate i.n.toNat false)).set 0 true))) ⟨hA.sub ((.cons rfl (.cons rfl (.cons rfl .nil)))), hM, (by omega), (if_pos hk3).symm, (us_zero (by omega))⟩ ?_
  clear hA hM a
  rintro ⟨m, X, ya, yc, U⟩ a w6 ⟨hA, hM, hm, hX, hus⟩ hNext
  refine Ends.seq (Ends.seq (Ends.region ?_))
  refine S.val hA (R.move rfl) rfl ?_; clear hA a; intro a hA
  refine S.val hA (R.lenS Try.underlying22 rfl rfl) rfl ?_; clear hA a; intro a hA
  refine S.val hA (R.fieldAddr (q := 1) fi25_1 rfl rfl rfl) rfl ?_; clear hA a; intro a hA
  refine S.val hA (R.load sz3 rfl (hM.cell (k := 2) rfl rfl)) rfl ?_; clear hA a; intro a hA
  refine S.val hA (R.lss rfl rfl) rfl ?_; clear hA a; intro a hA
  refine S.done ?_
  replace hA : St 49 [(1, _), (3, _), (4, _), (22, _)] a := hA.sub ((.cons rfl (.cons rfl (.cons rfl (.cons rfl .nil)))))
  refine Ends.ite hA rfl (fun hc11 => ?_) (fun hc11 => ?_)
  ·
   have hXl : X.length = frm i + m := by rw [hX, rwA_len]
   have hinc := hin m hm
   rw [← hX] at hinc
   have hUl := hus.1
   refine Ends.skip (Ends.block (Ends.seq (Ends.region ?_)))
   refine S.val hA (R.move rfl) rfl ?_; clear hA a; intro a hA
   refine S.val hA (R.lenS Try.underlying22 rfl rfl) rfl ?_; clear hA a; intro a hA
   refine S.val hA (R.assign rfl) rfl ?_; clear hA a; intro a hA
   refine S.done ?_
   refine Ends.seq (Ends.seq (Ends.region ?_))
   refine S.val hA (R.fieldAddr (q := 0) fi25_0 rfl rfl rfl) rfl ?_; clear hA a; intro a hA
   refine S.val hA (R.load sz3 rfl (hM.cell (k := 2) rfl rfl)) rfl ?_; clear hA a; intro a hA
   refine S.val hA (R.eql rfl rfl) rfl ?_; clear hA a; intro a hA
   refine S.done ?_
   replace hA : St 49 [(1, _), (3, _), (4, _), (5, _), (27, _)] a := hA.sub ((.cons rfl (.cons rfl (.cons rfl (.cons rfl (.cons rfl .nil))))))
   refine Ends.ite hA rfl (fun hc12 => ?_) (fun hc12 => ?_)
   ·
    have hlast : 0 ≤ X.getD (X.length - 1) 0 ∧ X.getD (X.length - 1) 0 < (i.n.toNat : Int) := hinc.1.2 _ (getD_mem (by omega))
    refine Ends.region ?_
    refine S.val hA (R.move rfl) rfl ?_; clear hA a; intro a hA
    refine S.val hA (R.move rfl) rfl ?_; clear hA a; intro a hA
    refine S.val hA (R.lenS Try.underlying22 rfl rfl) rfl ?_; clear hA a; intro a hA
    refine S.val hA (R.subI rfl rfl (r := ((X.length - 1 : Nat) : Int)) (by omega) (by omega)) rfl ?_; clear hA a; intro a hA
    refine S.val hA (R.idxI (hM.rsl (k := 0) rfl) (j := (X.length - 1)) sl22 rfl rfl (by omega) (by omega)) rfl ?_; clear hA a; intro a hA
    refine S.val hA (R.loadI (hM.rsl (k := 0) rfl) sz3 rfl (by omega)) rfl ?_; clear hA a; intro a hA
    refine S.val hA (R.assign rfl) rfl ?_; clear hA a; intro a hA
    refine S.done ?_
    replace hA : St 49 [(1, _), (3, _), (4, _), (5, _)] a := hA.sub ((.cons rfl (.cons rfl (.cons rfl (.cons rfl .nil)))))
    refine Ends.seq ?_
    have hrl := hrow (X.getD (X.length - 1) 0).toNat (by omega)
    obtain ⟨Rw, hRw0⟩ : ∃ Rw, Rw = i.cost.getD (X.getD (X.length - 1) 0).toNat [] := ⟨_, rfl⟩
    have hRw : rowOf i X = Rw := by rw [hRw0]; unfold rowOf; rw [if_pos hk3]
    obtain ⟨q, hq⟩ : ∃ q : Nat, chI Rw X i.n.toNat = (q : Int) := ⟨(chI Rw X i.n.toNat).toNat, by have := chI_pos Rw X i.n.toNat (free_col (by omega)); omega⟩
    have hqn : q < i.n.toNat := by have := chI_bd Rw X i.n.toNat; omega
    have hst : X ++ [(q : Int)] = rwA i (m + 1) := by rw [rwA, ← hX, hRw, hq]
    have hus2 := us_add hus (q := q) (by omega)
    refine Ends.region ?_
    refine S.val hA (R.fieldAddr (q := 5) fi25_5 rfl rfl rfl) rfl ?_; clear hA a; intro a hA
    refine S.val hA (R.load sz23 rfl (hM.cell (k := 2) rfl rfl)) rfl ?_; clear hA a; intro a hA
    refine S.val hA (R.move rfl) rfl ?_; clear hA a; intro a hA
    refine S.val hA (R.idxR hx5 (j := (X.getD ((X.length - 1)) 0).toNat) sl23 rfl rfl (by omega) (rfl)) rfl ?_; clear hA a; intro a hA
    obtain ⟨ra13, rc14, hrow15, hld16⟩ := hx5.atP (i := (X.getD ((X.length - 1)) 0).toNat) (by omega)
    refine S.val hA (hld16 _ _ _ _ _ _ hM sz22 rfl) rfl ?_; clear hA a; intro a hA
    refine S.val hA (R.move rfl) rfl ?_; clear hA a; intro a hA
    refine S.call hA (R.callF Try.func64 rfl rfl rfl) rfl ((by have h9 := cheap10 ra13 Rw rc14 b3 U X i.n.toNat (by rw [hRw0]; exact hrl) hus _ (by rw [hRw0]; exact hrow15.mem hM) (hM.block (k := 1) rfl); rw [hq, hRw0] at h9; exact h9)) ?_; clear hA a
    rintro e w7 ⟨rfl, hb⟩
    replace hM := hM.callB hb; clear hb
    refine ⟨.int .i64 ((q : Int)), rfl, fun a hA => ?_⟩
    refine S.val hA (R.assign rfl) rfl ?_; clear hA a; intro a hA
    refine S.done ?_
    replace hA : St 49 [(1, _), (3, _), (4, _), (6, _)] a := hA.sub ((.cons rfl (.cons rfl (.cons rfl (.cons rfl .nil)))))
    refine Ends.seq (Ends.region ?_)
    refine S.val hA (R.move rfl) rfl ?_; clear hA a; intro a hA
    refine S.val hA (R.move rfl) rfl ?_; clear hA a; intro a hA
    refine S.val hA (R.indexAddr (q := q) sl68 rfl rfl (by omega) (by omega)) rfl ?_; clear hA a; intro a hA
    refine S.store (k := 1) hA hM sz4 rfl rfl rfl rfl (boo_get _ _ (by omega)) ?_; clear hM
    intro w8 hM
    rw [boo_set] at hM
    replace hM : Mem _ _ [own 3 1 (.slice ya X.length yc) X.length (X.map (Value.int .i64)), pt b3 ((boo (U.set q true))) 4, pt b1 #[.int .i64 i.kind, .int .i64 i.n, .int .i64 i.cap, .slice ax3 i.wt.length cx3, .slice ax4 i.vl.length cx4, .slice ax5 i.cost.length cx5] 25] _ := hM
    refine S.done ?_
    refine Ends.region ?_
    refine S.val hA (R.move rfl) rfl ?_; clear hA a; intro a hA
    refine S.val hA (R.move rfl) rfl ?_; clear hA a; intro a hA
    refine S.buildSl (cells := #[.int .i64 ((q : Int))]) hA hM Try.underlying22 info3 rfl rfl rfl rfl (by kernel_rfl) rfl ?_; clear hA hM a; intro b17 w9 hb18 hM a hA
    replace hM : Mem _ _ [pt b17 #[.int .i64 ((q : Int))] 3, own 3 1 (.slice ya X.length yc) X.length (X.map (Value.int .i64)), pt b3 ((boo (U.set q true))) 4, pt b1 #[.int .i64 i.kind, .int .i64 i.n, .int .i64 i.cap, .slice ax3 i.wt.length cx3, .slice ax4 i.vl.length cx4, .slice ax5 i.cost.length cx5] 25] _ := hM
    refine S.append (k := 1) (k2 := 0) hA hM rfl rfl Try.underlying22 info3 rfl rfl rfl rfl rfl rfl rfl rfl rfl (by first | decide | (unfold maxLen; omega) | (show (_ + 1) * 8 ≤ (140737488355328 : Nat); omega) | omega) (by first | decide | (unfold maxLen; omega) | (show (_ + 1) * 8 ≤ (140737488355328 : Nat); omega) | omega) rfl ?_; clear hA hM a; intro a19 c20 w10 hM a hA
    replace hM : Mem _ _ [pt b17 #[.int .i64 ((q : Int))] 3, own 3 1 (.slice a19 (X.length + 1) c20) (X.length + 1) (X.map (Value.int .i64) ++ [.int .i64 ((q : Int))]), pt b3 ((boo (U.set q true))) 4, pt b1 #[.int .i64 i.kind, .int .i64 i.n, .int .i64 i.cap, .slice ax3 i.wt.length cx3, .slice ax4 i.vl.length cx4, .slice ax5 i.cost.length cx5] 25] _ := hM
    have hl21 : X.length + 1 = (X ++ [(q : Int)]).length := by simp
    rw [hl21, show X.map (Value.int .i64) ++ [.int .i64 ((q : Int))] = (X ++ [(q : Int)]).map (Value.int .i64) by simp] at hM; rw [hl21] at hA
    clear hl21
    replace hM := hM.drop 0
    replace hM : Mem _ _ [own 3 1 (.slice a19 (((X ++ [(q : Int)])).length) c20) (((X ++ [(q : Int)])).length) (((X ++ [(q : Int)])).map (Value.int .i64)), pt b3 ((boo (U.set q true))) 4, pt b1 #[.int .i64 i.kind, .int .i64 i.n, .int .i64 i.cap, .slice ax3 i.wt.length cx3, .slice ax4 i.vl.length cx4, .slice ax5 i.cost.length cx5] 25] _ := hM
    refine S.val hA (R.assign rfl) rfl ?_; clear hA a; intro a hA
    refine S.done ?_
    replace hA : St 49 [(1, _), (3, _), (4, _)] a := hA.sub ((.cons rfl (.cons rfl (.cons rfl .nil))))
    refine Ends.inBlock ?_
    replace hM := hM.front (k := 2) rfl
    replace hM := hM.front (k := 2) rfl
    replace hM := hM.front (k := 2) rfl
    replace hM : Mem _ _ [own 3 1 (.slice a19 (((X ++ [(q : Int)])).length) c20) (((X ++ [(q : Int)])).length) (((X ++ [(q : Int)])).map (Value.int .i64)), pt b3 ((boo (U.set q true))) 4, pt b1 #[.int .i64 i.kind, .int .i64 i.n, .int .i64 i.cap, .slice ax3 i.wt.length cx3, .slice ax4 i.vl.length cx4, .slice ax5 i.cost.length cx5] 25] _ := hM
    exact hNext ((m + 1, (X ++ [(q : Int)]), a19, c20, (U.set q true))) _ _ ((by show i.n.toNat - (m + 1) < i.n.toNat - m; omega)) ⟨hA.sub ((.cons rfl (.cons rfl (.cons rfl .nil)))), hM, (by omega), hst, hus2⟩
   · exact absurd hk3 hc12
  ·
   have hXl : X.length = frm i + m := by rw [hX, rwA_len]
   have hinc := hin m hm
   rw [← hX] at hinc
   have hUl := hus.1
   have hmn : m = i.n.toNat - frm i := by omega
   refine Ends.exit rfl ?_
   refine Ends.seq (Ends.region ?_)
   refine S.val hA (R.move rfl) rfl ?_; clear hA a; intro a hA
   refine S.val hA (R.assign rfl) rfl ?_; clear hA a; intro a hA
   refine S.done ?_
   replace hA : St 49 [(2, _)] a := hA.sub ((.cons rfl .nil))
   refine Ends.ret1 Try.func47 Try.results47 hA rfl ?_
   rw [hmn] at hX
   subst hX
   have hr := hM.rsl (k := 0) (X := rwA i (i.n.toNat - frm i)) rfl
   exact ⟨_, _, rfl, hr, Mem.trans0 hbs hM.nilL⟩
 ·
  have hk3 := hc5
  have hfr : frm i = 0 := if_neg hk3
  refine Ends.skip (Ends.seq (Ends.block ?_))
  replace hM := hM.ownNil 3 1
  replace hM : Mem _ _ [own 3 1 (.slice none ((([] : List Int)).length) 0) ((([] : List Int)).length) ((([] : List Int)).map (Value.int .i64)), pt b3 ((boo (List.replicate i.n.toNat false))) 4, pt b1 #[.int .i64 i.kind, .int .i64 i.n, .int .i64 i.cap, .slice ax3 i.wt.length cx3, .slice ax4 i.vl.length cx4, .slice ax5 i.cost.length cx5] 25] _ := hM
  replace hM := hM.front (k := 2) rfl
  replace hM := hM.front (k := 2) rfl
  replace hM := hM.front (k := 2) rfl
  refine Ends.loop (σ := Nat × List Int × Option Addr × Nat × List Bool) (fun (m, X, ya, yc, U) (a : Act) (wv : World) => St 49 [(1, .pointer (some ⟨b1, 0, none⟩)), (3, .slice (some ⟨b3, 0, none⟩) i.n.toNat i.n.toNat), (4, .slice ya X.length yc)] a ∧ Mem w nof [own 3 1 (.slice ya X.length yc) X.length (X.map (Value.int .i64)), pt b3 ((boo U)) 4, pt b1 #[.int .i64 i.kind, .int .i64 i.n, .int .i64 i.cap, .slice ax3 i.wt.length cx3, .slice ax4 i.vl.length cx4, .slice ax5 i.cost.length cx5] 25] wv ∧ (frm i + m ≤ i.n.toNat) ∧ (X = rwA i m) ∧ (usOK X i.n.toNat U)) (fun (m, X, ya, yc, U) => i.n.toNat - m) ((0, [], none, 0, (List.replicate i.n.toNat false))) ⟨hA.sub ((.cons rfl (.cons rfl (.cons rfl .nil)))), hM, (by omega), (if_neg hk3).symm, (us_nil _)⟩ ?_
  clear hA hM a
  rintro ⟨m, X, ya, yc, U⟩ a w11 ⟨hA, hM, hm, hX, hus⟩ hNext
  refine Ends.seq (Ends.seq (Ends.region ?_))
  refine S.val hA (R.move rfl) rfl ?_; clear hA a; intro a hA
  refine S.val hA (R.lenS Try.underlying22 rfl rfl) rfl ?_; clear hA a; intro a hA
  refine S.val hA (R.fieldAddr (q := 1) fi25_1 rfl rfl rfl) rfl ?_; clear hA a; intro a hA
  refine S.val hA (R.load sz3 rfl (hM.cell (k := 2) rfl rfl)) rfl ?_; clear hA a; intro a hA
  refine S.val hA (R.lss rfl rfl) rfl ?_; clear hA a; intro a hA
  refine S.done ?_
  replace hA : St 49 [(1, _), (3, _), (4, _), (22, _)] a := hA.sub ((.cons rfl (.cons rfl (.cons rfl (.cons rfl .nil)))))
  refine Ends.ite hA rfl (fun hc22 => ?_) (fun hc22 => ?_)
  ·
   have hXl : X.length = frm i + m := by rw [hX, rwA_len]
   have hinc := hin m hm
   rw [← hX] at hinc
   have hUl := hus.1
   refine Ends.skip (Ends.block (Ends.seq (Ends.region ?_)))
   refine S.val hA (R.move rfl) rfl ?_; clear hA a; intro a hA
   refine S.val hA (R.lenS Try.underlying22 rfl rfl) rfl ?_; clear hA a; intro a hA
   refine S.val hA (R.assign rfl) rfl ?_; clear hA a; intro a hA
   refine S.done ?_
   refine Ends.seq (Ends.seq (Ends.region ?_))
   refine S.val hA (R.fieldAddr (q := 0) fi25_0 rfl rfl rfl) rfl ?_; clear hA a; intro a hA
   refine S.val hA (R.load sz3 rfl (hM.cell (k := 2) rfl rfl)) rfl ?_; clear hA a; intro a hA
   refine S.val hA (R.eql rfl rfl) rfl ?_; clear hA a; intro a hA
   refine S.done ?_
   replace hA : St 49 [(1, _), (3, _), (4, _), (5, _), (27, _)] a := hA.sub ((.cons rfl (.cons rfl (.cons rfl (.cons rfl (.cons rfl .nil))))))
   refine Ends.ite hA rfl (fun hc23 => ?_) (fun hc23 => ?_)
   · exact absurd hc23 hk3
   ·
    refine Ends.skip (Ends.seq ?_)
    have hrl := hrow X.length (by omega)
    obtain ⟨Rw, hRw0⟩ : ∃ Rw, Rw = i.cost.getD X.length [] := ⟨_, rfl⟩
    have hRw : rowOf i X = Rw := by rw [hRw0]; unfold rowOf; rw [if_neg hk3]
    obtain ⟨q, hq⟩ : ∃ q : Nat, chI Rw X i.n.toNat = (q : Int) := ⟨(chI Rw X i.n.toNat).toNat, by have := chI_pos Rw X i.n.toNat (free_col (by omega)); omega⟩
    have hqn : q < i.n.toNat := by have := chI_bd Rw X i.n.toNat; omega
    have hst : X ++ [(q : Int)] = rwA i (m + 1) := by rw [rwA, ← hX, hRw, hq]
    have hus2 := us_add hus (q := q) (by omega)
    refine Ends.region ?_
    refine S.val hA (R.fieldAddr (q := 5) fi25_5 rfl rfl rfl) rfl ?_; clear hA a; intro a hA
    refine S.val hA (R.load sz23 rfl (hM.cell (k := 2) rfl rfl)) rfl ?_; clear hA a; intro a hA
    refine S.val hA (R.move rfl) rfl ?_; clear hA a; intro a hA
    refine S.val hA (R.idxR hx5 (j := X.length) sl23 rfl rfl (by omega) (rfl)) rfl ?_; clear hA a; intro a hA
    obtain ⟨ra24, rc25, hrow26, hld27⟩ := hx5.atP (i := X.length) (by omega)
    refine S.val hA (hld27 _ _ _ _ _ _ hM sz22 rfl) rfl ?_; clear hA a; intro a hA
    refine S.val hA (R.move rfl) rfl ?_; clear hA a; intro a hA
    refine S.call hA (R.callF Try.func64 rfl rfl rfl) rfl ((by have h9 := cheap10 ra24 Rw rc25 b3 U X i.n.toNat (by rw [hRw0]; exact hrl) hus _ (by rw [hRw0]; exact hrow26.mem hM) (hM.block (k := 1) rfl); rw [hq, hRw0] at h9; exact h9)) ?_; clear hA a
    rintro e w12 ⟨rfl, hb⟩
    replace hM := hM.callB hb; clear hb
    refine ⟨.int .i64 ((q : Int)), rfl, fun a hA => ?_⟩
    refine S.val hA (R.assign rfl) rfl ?_; clear hA a; intro a hA
    refine S.done ?_
    replace hA : St 49 [(1, _), (3, _), (4, _), (6, _)] a := hA.sub ((.cons rfl (.cons rfl (.cons rfl (.cons rfl .nil)))))
    refine Ends.seq (Ends.region ?_)
    refine S.val hA (R.move rfl) rfl ?_; clear hA a; intro a hA
    refine S.val hA (R.move rfl) rfl ?_; clear hA a; intro a hA
    refine S.val hA (R.indexAddr (q := q) sl68 rfl rfl (by omega) (by omega)) rfl ?_; clear hA a; intro a hA
    refine S.store (k := 1) hA hM sz4 rfl rfl rfl rfl (boo_get _ _ (by omega)) ?_; clear hM
    intro w13 hM
    rw [boo_set] at hM
    replace hM : Mem _ _ [own 3 1 (.slice ya X.length yc) X.length (X.map (Value.int .i64)), pt b3 ((boo (U.set q true))) 4, pt b1 #[.int .i64 i.kind, .int .i64 i.n, .int .i64 i.cap, .slice ax3 i.wt.length cx3, .slice ax4 i.vl.length cx4, .slice ax5 i.cost.length cx5] 25] _ := hM
    refine S.done ?_
    refine Ends.region ?_
    refine S.val hA (R.move rfl) rfl ?_; clear hA a; intro a hA
    refine S.val hA (R.move rfl) rfl ?_; clear hA a; intro a hA
    refine S.buildSl (cells := #[.int .i64 ((q : Int))]) hA hM Try.underlying22 info3 rfl rfl rfl rfl (by kernel_rfl) rfl ?_; clear hA hM a; intro b28 w14 hb29 hM a hA
    replace hM : Mem _ _ [pt b28 #[.int .i64 ((q : Int))] 3, own 3 1 (.slice ya X.length yc) X.length (X.map (Value.int .i64)), pt b3 ((boo (U.set q true))) 4, pt b1 #[.int .i64 i.kind, .int .i64 i.n, .int .i64 i.cap, .slice ax3 i.wt.length cx3, .slice ax4 i.vl.length cx4, .slice ax5 i.cost.length cx5] 25] _ := hM
    refine S.append (k := 1) (k2 := 0) hA hM rfl rfl Try.underlying22 info3 rfl rfl rfl rfl rfl rfl rfl rfl rfl (by first | decide | (unfold maxLen; omega) | (show (_ + 1) * 8 ≤ (140737488355328 : Nat); omega) | omega) (by first | decide | (unfold maxLen; omega) | (show (_ + 1) * 8 ≤ (140737488355328 : Nat); omega) | omega) rfl ?_; clear hA hM a; intro a30 c31 w15 hM a hA
    replace hM : Mem _ _ [pt b28 #[.int .i64 ((q : Int))] 3, own 3 1 (.slice a30 (X.length + 1) c31) (X.length + 1) (X.map (Value.int .i64) ++ [.int .i64 ((q : Int))]), pt b3 ((boo (U.set q true))) 4, pt b1 #[.int .i64 i.kind, .int .i64 i.n, .int .i64 i.cap, .slice ax3 i.wt.length cx3, .slice ax4 i.vl.length cx4, .slice ax5 i.cost.length cx5] 25] _ := hM
    have hl32 : X.length + 1 = (X ++ [(q : Int)]).length := by simp
    rw [hl32, show X.map (Value.int .i64) ++ [.int .i64 ((q : Int))] = (X ++ [(q : Int)]).map (Value.int .i64) by simp] at hM; rw [hl32] at hA
    clear hl32
    replace hM := hM.drop 0
    replace hM : Mem _ _ [own 3 1 (.slice a30 (((X ++ [(q : Int)])).length) c31) (((X ++ [(q : Int)])).length) (((X ++ [(q : Int)])).map (Value.int .i64)), pt b3 ((boo (U.set q true))) 4, pt b1 #[.int .i64 i.kind, .int .i64 i.n, .int .i64 i.cap, .slice ax3 i.wt.length cx3, .slice ax4 i.vl.length cx4, .slice ax5 i.cost.length cx5] 25] _ := hM
    refine S.val hA (R.assign rfl) rfl ?_; clear hA a; intro a hA
    refine S.done ?_
    replace hA : St 49 [(1, _), (3, _), (4, _)] a := hA.sub ((.cons rfl (.cons rfl (.cons rfl .nil))))
    refine Ends.inBlock ?_
    replace hM := hM.front (k := 2) rfl
    replace hM := hM.front (k := 2) rfl
    replace hM := hM.front (k := 2) rfl
    replace hM : Mem _ _ [own 3 1 (.slice a30 (((X ++ [(q : Int)])).length) c31) (((X ++ [(q : Int)])).length) (((X ++ [(q : Int)])).map (Value.int .i64)), pt b3 ((boo (U.set q true))) 4, pt b1 #[.int .i64 i.kind, .int .i64 i.n, .int .i64 i.cap, .slice ax3 i.wt.length cx3, .slice ax4 i.vl.length cx4, .slice ax5 i.cost.length cx5] 25] _ := hM
    exact hNext ((m + 1, (X ++ [(q : Int)]), a30, c31, (U.set q true))) _ _ ((by show i.n.toNat - (m + 1) < i.n.toNat - m; omega)) ⟨hA.sub ((.cons rfl (.cons rfl (.cons rfl .nil)))), hM, (by omega), hst, hus2⟩
  ·
   have hXl : X.length = frm i + m := by rw [hX, rwA_len]
   have hinc := hin m hm
   rw [← hX] at hinc
   have hUl := hus.1
   have hmn : m = i.n.toNat - frm i := by omega
   refine Ends.exit rfl ?_
   refine Ends.seq (Ends.region ?_)
   refine S.val hA (R.move rfl) rfl ?_; clear hA a; intro a hA
   refine S.val hA (R.assign rfl) rfl ?_; clear hA a; intro a hA
   refine S.done ?_
   replace hA : St 49 [(2, _)] a := hA.sub ((.cons rfl .nil))
   refine Ends.ret1 Try.func47 Try.results47 hA rfl ?_
   rw [hmn] at hX
   subst hX
   have hr := hM.rsl (k := 0) (X := rwA i (i.n.toNat - frm i)) rfl
   exact ⟨_, _, rfl, hr, Mem.trans0 hbs hM.nilL⟩
set_option maxRecDepth 100000 in
set_option maxHeartbeats 400000 in
theorem first10 (i : Ins) (ax3 : Option Addr) (cx3 : Nat) (ax4 : Option Addr) (cx4 : Nat) (ax5 : Option Addr) (cx5 : Nat) (hsm : i.wt.length ≤ 1000000 ∧ i.vl.length ≤ 1000000) (w : World) (hx3 : IntSl w (.slice ax3 i.wt.length cx3) i.wt) (hx4 : IntSl w (.slice ax4 i.vl.length cx4) i.vl) (hx5 : RowsV w (.slice ax5 i.cost.length cx5) i.cost) :
  Calls Try.prog 24 #[.agg #[.int .i64 i.kind, .int .i64 i.n, .int .i64 i.cap, .slice ax3 i.wt.length cx3, .slice ax4 i.vl.length cx4, .slice ax5 i.cost.length cx5]] w fun e w' => ∃ a c, e = .returned (.tuple #[.slice a ((frI i)).length c, .int .i64 (chk i)]) ∧ IntSl w' (.slice a ((frI i)).length c) ((frI i)) ∧ Below w.heap.size w w' := by
 have hbs := Below.refl (B := w.heap.size) w
 have hM := Mem.start w
 refine Calls.of_ends (vs := [.agg #[.int .i64 i.kind, .int .i64 i.n, .int .i64 i.cap, .slice ax3 i.wt.length cx3, .slice ax4 i.vl.length cx4, .slice ax5 i.cost.length cx5]]) Try.func24 rfl Try.ntmps24 rfl ?_
 intro a hA
 replace hA : St 19 [(0, _)] a := hA
 refine Ends.seq (Ends.region ?_)
 refine S.box hA hM rfl rfl ?_; clear hA hM a; intro b1 w1 hb2 hM a hA
 replace hM : Mem _ _ [pt b1 #[.int .i64 i.kind, .int .i64 i.n, .int .i64 i.cap, .slice ax3 i.wt.length cx3, .slice ax4 i.vl.length cx4, .slice ax5 i.cost.length cx5] 25] _ := hM
 refine S.val hA (R.assign rfl) rfl ?_; clear hA a; intro a hA
 refine S.val hA (R.assign rfl) rfl ?_; clear hA a; intro a hA
 refine S.done ?_
 refine Ends.seq (Ends.region ?_)
 refine S.val hA (R.loadA sz25 rfl (hM.range (k := 0) rfl) rfl) rfl ?_; clear hA a; intro a hA
 refine S.call hA (R.callF Try.func35 rfl rfl rfl) rfl (check05 i ax3 cx3 ax4 cx4 ax5 cx5 hsm _ (hx3.mem hM) (hx4.mem hM) (hx5.mem hM)) ?_; clear hA a
 rintro e w2 ⟨rfl, hb⟩
 replace hM := hM.callB hb; clear hb
 refine ⟨.int .i64 (chk i), rfl, fun a hA => ?_⟩
 refine S.val hA (R.assign rfl) rfl ?_; clear hA a; intro a hA
 refine S.done ?_
 replace hA : St 19 [(1, _), (4, _)] a := hA.sub ((.cons rfl (.cons rfl .nil)))
 refine Ends.seq (Ends.block (Ends.seq (Ends.region ?_)))
 refine S.val hA (R.move rfl) rfl ?_; clear hA a; intro a hA
 refine S.val hA (R.neq rfl rfl) rfl ?_; clear hA a; intro a hA
 refine S.val hA (R.assign rfl) rfl ?_; clear hA a; intro a hA
 refine S.done ?_
 refine Ends.ite hA rfl (fun hc3 => ?_) (fun hc3 => ?_)
 ·
  have hz : ¬ chk i = 0 := hc3
  refine Ends.seq (Ends.region ?_)
  refine S.val hA (R.move rfl) rfl ?_; clear hA a; intro a hA
  refine S.val hA (R.assign rfl) rfl ?_; clear hA a; intro a hA
  refine S.val hA (R.assign rfl) rfl ?_; clear hA a; intro a hA
  refine S.done ?_
  replace hA : St 19 [(1, _), (2, _), (3, _)] a := hA.sub ((.cons rfl (.cons rfl (.cons rfl .nil))))
  refine Ends.ret2 Try.func24 Try.results24 hA rfl rfl ?_
  exact ⟨none, 0, by rw [frI_no hz]; rfl, by rw [frI_no hz]; exact IntSl.nil _, Mem.trans0 hbs hM.nilL⟩
 ·
  have hz : chk i = 0 := Decidable.not_not.1 hc3
  have hF := chk_inF hz
  refine Ends.seq (Ends.region ?_)
  refine S.val hA (R.fieldAddr (q := 0) fi25_0 rfl rfl rfl) rfl ?_; clear hA a; intro a hA
  refine S.val hA (R.load sz3 rfl (hM.cell (k := 0) rfl rfl)) rfl ?_; clear hA a; intro a hA
  refine S.val hA (R.eql rfl rfl) rfl ?_; clear hA a; intro a hA
  refine S.val hA (R.assign rfl) rfl ?_; clear hA a; intro a hA
  refine S.done ?_
  replace hA : St 19 [(1, _), (11, _)] a := hA.sub ((.cons rfl (.cons rfl .nil)))
  refine Ends.ite hA rfl (fun hc4 => ?_) (fun hc4 => ?_)
  ·
   have hk1 := hc4
   refine Ends.seq (Ends.region ?_)
   refine S.val hA (R.loadA sz25 rfl (hM.range (k := 0) rfl) rfl) rfl ?_; clear hA a; intro a hA
   refine S.call hA (R.callF Try.func46 rfl rfl rfl) rfl (knap10 i ax3 cx3 ax4 cx4 ax5 cx5 hF hk1 _ (hx3.mem hM) (hx4.mem hM) (hx5.mem hM)) ?_; clear hA a
   rintro e w3 ⟨ra5, rc6, rfl, rh7, hb⟩
   replace hM := hM.callB hb; clear hb
   have hbx8 := hM.block (k := 0) rfl
   have hbs := hbs.trans (hM.below.mono hbs.size)
   have hx3 := hx3.mem hM
   have hx4 := hx4.mem hM
   have hx5 := hx5.mem hM
   replace hM := Mem.start w3
   refine ⟨.slice ra5 (((knS i)).length) rc6, rfl, fun a hA => ?_⟩
   refine S.val hA (R.assign rfl) rfl ?_; clear hA a; intro a hA
   refine S.val hA (R.assign rfl) rfl ?_; clear hA a; intro a hA
   refine S.done ?_
   refine Ends.ret2 Try.func24 Try.results24 hA rfl rfl ?_
   rw [show frI i = (knS i) from frI_kn hz hk1, hz]
   exact ⟨_, _, rfl, rh7.mem hM, Mem.trans0 hbs hM.nilL⟩
  ·
   have hk1 := hc4
   refine Ends.skip (Ends.inBlock (Ends.seq (Ends.region ?_)))
   refine S.val hA (R.loadA sz25 rfl (hM.range (k := 0) rfl) rfl) rfl ?_; clear hA a; intro a hA
   refine S.call hA (R.callF Try.func47 rfl rfl rfl) rfl (rows10 i ax3 cx3 ax4 cx4 ax5 cx5 hF hk1 _ (hx3.mem hM) (hx4.mem hM) (hx5.mem hM)) ?_; clear hA a
   rintro e w4 ⟨ra9, rc10, rfl, rh11, hb⟩
   replace hM := hM.callB hb; clear hb
   have hbx12 := hM.block (k := 0) rfl
   have hbs := hbs.trans (hM.below.mono hbs.size)
   have hx3 := hx3.mem hM
   have hx4 := hx4.mem hM
   have hx5 := hx5.mem hM
   replace hM := Mem.start w4
   refine ⟨.slice ra9 (((rwA i (i.n.toNat - frm i))).length) rc10, rfl, fun a hA => ?_⟩
   refine S.val hA (R.assign rfl) rfl ?_; clear hA a; intro a hA
   refine S.val hA (R.assign rfl) rfl ?_; clear hA a; intro a hA
   refine S.done ?_
   replace hA : St 19 [(2, _), (3, _)] a := hA.sub ((.cons rfl (.cons rfl .nil)))
   refine Ends.ret2 Try.func24 Try.results24 hA rfl rfl ?_
   rw [show frI i = (rwA i (i.n.toNat - frm i)) from frI_rw hz hk1, hz]
   exact ⟨_, _, rfl, rh11.mem hM, Mem.trans0 hbs hM.nilL⟩
set_option maxRecDepth 100000 in
set_option maxHeartbeats 400000 in
theorem rfirst10 (i : Ins) (ax3 : Option Addr) (cx3 : Nat) (ax4 : Option Addr) (cx4 : Nat) (ax5 : Option Addr) (cx5 : Nat) (w : World) (hx3 : IntSl w (.slice ax3 i.wt.length cx3) i.wt) (hx4 : IntSl w (.slice ax4 i.vl.length cx4) i.vl) (hx5 : RowsV w (.slice ax5 i.cost.length cx5) i.cost) :
  Calls Try.prog 25 #[.agg #[.int .i64 i.kind, .int .i64 i.n, .int .i64 i.cap, .slice ax3 i.wt.length cx3, .slice ax4 i.vl.length cx4, .slice ax5 i.cost.length cx5]] w fun e w' => ∃ a c, e = .returned (.tuple #[.slice a ((frI i)).length c, .int .i64 (chk i)]) ∧ IntSl w' (.slice a ((frI i)).length c) ((frI i)) ∧ Below w.heap.size w w' := by
 have hbs := Below.refl (B := w.heap.size) w
 have hM := Mem.start w
 refine Calls.of_ends (vs := [.agg #[.int .i64 i.kind, .int .i64 i.n, .int .i64 i.cap, .slice ax3 i.wt.length cx3, .slice ax4 i.vl.length cx4, .slice ax5 i.cost.length cx5]]) Try.func25 rfl Try.ntmps25 rfl ?_
 intro a hA
 replace hA : St 85 [(0, _)] a := hA
 refine Ends.seq (Ends.region ?_)
 refine S.box hA hM rfl rfl ?_; clear hA hM a; intro b1 w1 hb2 hM a hA
 replace hM : Mem _ _ [pt b1 #[.int .i64 i.kind, .int .i64 i.n, .int .i64 i.cap, .slice ax3 i.wt.length cx3, .slice ax4 i.vl.length cx4, .slice ax5 i.cost.length cx5] 25] _ := hM
 refine S.val hA (R.assign rfl) rfl ?_; clear hA a; intro a hA
 refine S.val hA (R.assign rfl) rfl ?_; clear hA a; intro a hA
 refine S.done ?_
 refine Ends.seq (Ends.seq (Ends.region ?_))
 refine S.val hA (R.loadA sz25 rfl (hM.range (k := 0) rfl) rfl) rfl ?_; clear hA a; intro a hA
 refine S.call hA (R.callF Try.func15 rfl rfl rfl) rfl (rcheck05 i ax3 cx3 ax4 cx4 ax5 cx5 _ (hx3.mem hM) (hx4.mem hM) (hx5.mem hM)) ?_; clear hA a
 rintro e w2 ⟨rfl, hb⟩
 replace hM := hM.callB hb; clear hb
 refine ⟨.int .i64 (chk i), rfl, fun a hA => ?_⟩
 refine S.val hA (R.assign rfl) rfl ?_; clear hA a; intro a hA
 refine S.done ?_
 replace hA : St 85 [(1, _), (4, _)] a := hA.sub ((.cons rfl (.cons rfl .nil)))
 refine Ends.seq (Ends.region ?_)
 refine S.val hA (R.move rfl) rfl ?_; clear hA a; intro a hA
 refine S.val hA (R.neq rfl rfl) rfl ?_; clear hA a; intro a hA
 refine S.done ?_
 refine Ends.ite hA rfl (fun hc3 => ?_) (fun hc3 => ?_)
 ·
  have hz : ¬ chk i = 0 := hc3
  refine Ends.seq (Ends.region ?_)
  refine S.val hA (R.move rfl) rfl ?_; clear hA a; intro a hA
  refine S.val hA (R.assign rfl) rfl ?_; clear hA a; intro a hA
  refine S.val hA (R.assign rfl) rfl ?_; clear hA a; intro a hA
  refine S.done ?_
  replace hA : St 85 [(1, _), (2, _), (3, _)] a := hA.sub ((.cons rfl (.cons rfl (.cons rfl .nil))))
  refine Ends.ret2 Try.func25 Try.results25 hA rfl rfl ?_
  exact ⟨none, 0, by rw [frI_no hz]; rfl, by rw [frI_no hz]; exact IntSl.nil _, Mem.trans0 hbs hM.nilL⟩
 ·
  have hz : chk i = 0 := Decidable.not_not.1 hc3
  have hF := chk_inF hz
  refine Ends.skip (Ends.seq (Ends.seq (Ends.region ?_)))
  refine S.val hA (R.fieldAddr (q := 0) fi25_0 rfl rfl rfl) rfl ?_; clear hA a; intro a hA
  refine S.val hA (R.load sz3 rfl (hM.cell (k := 0) rfl rfl)) rfl ?_; clear hA a; intro a hA
  refine S.val hA (R.eql rfl rfl) rfl ?_; clear hA a; intro a hA
  refine S.done ?_
  replace hA : St 85 [(1, _), (17, _)] a := hA.sub ((.cons rfl (.cons rfl .nil)))
  refine Ends.ite hA rfl (fun hc4 => ?_) (fun hc4 => ?_)
  ·
   have hk1 := hc4
   refine Ends.seq (Ends.region ?_)
   refine S.val hA (R.loadA sz25 rfl (hM.range (k := 0) rfl) rfl) rfl ?_; clear hA a; intro a hA
   refine S.call hA (R.callF Try.func48 rfl rfl rfl) rfl (rknap10 i ax3 cx3 ax4 cx4 ax5 cx5 hF hk1 _ (hx3.mem hM) (hx4.mem hM) (hx5.mem hM)) ?_; clear hA a
   rintro e w3 ⟨ra5, rc6, rfl, rh7, hb⟩
   replace hM := hM.callB hb; clear hb
   have hbx8 := hM.block (k := 0) rfl
   have hbs := hbs.trans (hM.below.mono hbs.size)
   have hx3 := hx3.mem hM
   have hx4 := hx4.mem hM
   have hx5 := hx5.mem hM
   replace hM := Mem.start w3
   refine ⟨.slice ra5 (((knS i)).length) rc6, rfl, fun a hA => ?_⟩
   refine S.val hA (R.assign rfl) rfl ?_; clear hA a; intro a hA
   refine S.val hA (R.assign rfl) rfl ?_; clear hA a; intro a hA
   refine S.done ?_
   refine Ends.ret2 Try.func25 Try.results25 hA rfl rfl ?_
   rw [show frI i = (knS i) from frI_kn hz hk1, hz]
   exact ⟨_, _, rfl, rh7.mem hM, Mem.trans0 hbs hM.nilL⟩
  ·
   have hk1 := hc4
   have f1 := hF.n1
   have f3 := hF.n64
   have f4 := hF.n24 hk1
   have f7 := hF.cost
   rw [if_neg hk1] at f7
   have hrow := fun r h => rowLn hF hk1 (r := r) h
   have hfl := frm_le i
   have hin := rwA_inc (i := i) (by omega)
   have hrp : (List.replicate i.n.toNat false).length = i.n.toNat := List.length_replicate
   refine Ends.skip (Ends.seq (Ends.region ?_))
   refine S.alloc hA hM info52 rfl rfl ?_; clear hA hM a; intro b9 w4 hb10 hM a hA
   replace hM : Mem _ _ [pt b9 #[.bool false, .bool false, .bool false, .bool false, .bool false, .bool false, .bool false, .bool false, .bool false, .bool false, .bool false, .bool false, .bool false, .bool false, .bool false, .bool false, .bool false, .bool false, .bool false, .bool false, .bool false, .bool false, .bool false, .bool false] 52, pt b1 #[.int .i64 i.kind, .int .i64 i.n, .int .i64 i.cap, .slice ax3 i.wt.length cx3, .slice ax4 i.vl.length cx4, .slice ax5 i.cost.length cx5] 25] _ := hM
   refine S.done ?_
   replace hM : Mem _ _ [pt b9 ((boo (List.replicate 24 false))) 52, pt b1 #[.int .i64 i.kind, .int .i64 i.n, .int .i64 i.cap, .slice ax3 i.wt.length cx3, .slice ax4 i.vl.length cx4, .slice ax5 i.cost.length cx5] 25] _ := hM
   have hrp : (List.replicate 24 false).length = 24 := List.length_replicate
   refine Ends.seq (Ends.region ?_)
   refine S.buildSl0 hA hM Try.underlying22 info3 rfl ?_; clear hA hM a; intro b11 w5 hb12 hM a hA
   replace hM := hM.ownPt (cap := 0) (n := 0) (sz := 1) (xs := []) rfl (Nat.zero_le _) (Nat.le_refl _) rfl
   replace hM : Mem _ _ [own 3 1 (.slice ((some ⟨b11, 0, none⟩)) 0 0) 0 ((([] : List Int)).map (Value.int .i64)), pt b9 ((boo (List.replicate 24 false))) 52, pt b1 #[.int .i64 i.kind, .int .i64 i.n, .int .i64 i.cap, .slice ax3 i.wt.length cx3, .slice ax4 i.vl.length cx4, .slice ax5 i.cost.length cx5] 25] _ := hM
   refine S.val hA (R.assign rfl) rfl ?_; clear hA a; intro a hA
   refine S.done ?_
   refine Ends.seq (Ends.seq (Ends.region ?_))
   refine S.val hA (R.fieldAddr (q := 0) fi25_0 rfl rfl rfl) rfl ?_; clear hA a; intro a hA
   refine S.val hA (R.load sz3 rfl (hM.cell (k := 2) rfl rfl)) rfl ?_; clear hA a; intro a hA
   refine S.val hA (R.eql rfl rfl) rfl ?_; clear hA a; intro a hA
   refine S.done ?_
   replace hA : St 85 [(1, _), (5, _), (6, _), (23, _)] a := hA.sub ((.cons rfl (.cons rfl (.cons rfl (.cons rfl .nil)))))
   refine Ends.ite hA rfl (fun hc13 => ?_) (fun hc13 => ?_)
   ·
    have hk3 := hc13
    have hfr : frm i = 1 := if_pos hk3
    refine Ends.seq (Ends.region ?_)
    refine S.val hA (R.move rfl) rfl ?_; clear hA a; intro a hA
    refine S.buildSl (cells := #[.int .i64 0]) hA hM Try.underlying22 info3 rfl rfl rfl rfl (by kernel_rfl) rfl ?_; clear hA hM a; intro b14 w6 hb15 hM a hA
    replace hM : Mem _ _ [pt b14 #[.int .i64 0] 3, own 3 1 (.slice ((some ⟨b11, 0, none⟩)) 0 0) 0 ((([] : List Int)).map (Value.int .i64)), pt b9 ((boo (List.replicate 24 false))) 52, pt b1 #[.int .i64 i.kind, .int .i64 i.n, .int .i64 i.cap, .slice ax3 i.wt.length cx3, .slice ax4 i.vl.length cx4, .slice ax5 i.cost.length cx5] 25] _ := hM
    refine S.append (k := 1) (k2 := 0) hA hM rfl rfl Try.underlying22 info3 rfl rfl rfl rfl rfl rfl rfl rfl rfl (by first | decide | (unfold maxLen; omega) | (show (_ + 1) * 8 ≤ (140737488355328 : Nat); omega) | omega) (by first | decide | (unfold maxLen; omega) | (show (_ + 1) * 8 ≤ (140737488355328 : Nat); omega) | omega) rfl ?_; clear hA hM a; intro a16 c17 w7 hM a hA
    replace hM : Mem _ _ [pt b14 #[.int .i64 0] 3, own 3 1 (.slice a16 (0 + 1) c17) (0 + 1) ((([] : List Int)).map (Value.int .i64) ++ [.int .i64 0]), pt b9 ((boo (List.replicate 24 false))) 52, pt b1 #[.int .i64 i.kind, .int .i64 i.n, .int .i64 i.cap, .slice ax3 i.wt.length cx3, .slice ax4 i.vl.length cx4, .slice ax5 i.cost.length cx5] 25] _ := hM
    have hl18 : 0 + 1 = (([] : List Int) ++ [0]).length := by simp
    rw [hl18, show (([] : List Int)).map (Value.int .i64) ++ [.int .i64 0] = (([] : List Int) ++ [0]).map (Value.int .i64) by simp] at hM; rw [hl18] at hA
    clear hl18
    replace hM := hM.drop 0
    replace hM : Mem _ _ [own 3 1 (.slice a16 (((([] : List Int) ++ [0])).length) c17) (((([] : List Int) ++ [0])).length) (((([] : List Int) ++ [0])).map (Value.int .i64)), pt b9 ((boo (List.replicate 24 false))) 52, pt b1 #[.int .i64 i.kind, .int .i64 i.n, .int .i64 i.cap, .slice ax3 i.wt.length cx3, .slice ax4 i.vl.length cx4, .slice ax5 i.cost.length cx5] 25] _ := hM
    refine S.val hA (R.assign rfl) rfl ?_; clear hA a; intro a hA
    refine S.done ?_
    replace hA : St 85 [(1, _), (5, _), (6, _)] a := hA.sub ((.cons rfl (.cons rfl (.cons rfl .nil))))
    refine Ends.region ?_
    refine S.val hA (R.indexAddrA (q := 0) ar52 rfl rfl (by omega) (rfl)) rfl ?_; clear hA a; intro a hA
    refine S.store (k := 1) hA hM sz4 rfl rfl rfl rfl (boo_get _ _ (by omega)) ?_; clear hM
    intro w8 hM
    rw [boo_set] at hM
    replace hM : Mem _ _ [own 3 1 (.slice a16 (((([] : List Int) ++ [0])).length) c17) (((([] : List Int) ++ [0])).length) (((([] : List Int) ++ [0])).map (Value.int .i64)), pt b9 ((boo (((List.replicate 24 false)).set 0 true))) 52, pt b1 #[.int .i64 i.kind, .int .i64 i.n, .int .i64 i.cap, .slice ax3 i.wt.length cx3, .slice ax4 i.vl.length cx4, .slice ax5 i.cost.length cx5] 25] _ := hM
    refine S.done ?_
    refine Ends.seq (Ends.block ?_)
    replace hM := hM.front (k := 2) rfl
    replace hM := hM.front (k := 2) rfl
    replace hM := hM.front (k := 2) rfl
    refine Ends.loop (σ := Nat × List Int × Option Addr × Nat × List Bool) (fun (m, X, ya, yc, U) (a : Act) (wv : World) => St 85 [(1, .pointer (some ⟨b1, 0, none⟩)), (5, .pointer (some ⟨b9, 0, none⟩)), (6, .slice ya X.length yc)] a ∧ Mem w nof [own 3 1 (.slice ya X.length yc) X.length (X.map (Value.int .i64)), pt b9 ((boo U)) 52, pt b1 #[.int .i64 i.kind, .int .i64 i.n, .int .i64 i.cap, .slice ax3 i.wt.length cx3, .slice ax4 i.vl.length cx4, .slice ax5 i.cost.length cx5] 25] wv ∧ (frm i + m ≤ i.n.toNat) ∧ (X = rwA i m) ∧ (usOK X 24 U)) (fun (m, X, ya, yc, U) => i.n.toNat - m) ((0, [0], a16, c17, (((List.replicate 24 false)).set 0 true))) ⟨hA.sub ((.cons rfl (.cons rfl (.cons rfl .nil)))), hM, (by omega), (if_pos hk3).symm, (us_zero (by omega))⟩ ?_
    clear hA hM a
    rintro ⟨m, X, ya, yc, U⟩ a w9 ⟨hA, hM, hm, hX, hus⟩ hNext
    refine Ends.seq (Ends.seq (Ends.region ?_))
    refine S.val hA (R.move rfl) rfl ?_; clear hA a; intro a hA
    refine S.val hA (R.lenS Try.underlying22 rfl rfl) rfl ?_; clear hA a; intro a hA
    refine S.val hA (R.fieldAddr (q := 1) fi25_1 rfl rfl rfl) rfl ?_; clear hA a; intro a hA
    refine S.val hA (R.load sz3 rfl (hM.cell (k := 2) rfl rfl)) rfl ?_; clear hA a; intro a hA
    refine S.val hA (R.lss rfl rfl) rfl ?_; clear hA a; intro a hA
    refine S.done ?_
    replace hA : St 85 [(1, _), (5, _), (6, _), (32, _)] a := hA.sub ((.cons rfl (.cons rfl (.cons rfl (.cons rfl .nil)))))
    refine Ends.ite hA rfl (fun hc19 => ?_) (fun hc19 => ?_)
    ·
     have hXl : X.length = frm i + m := by rw [hX, rwA_len]
     have hinc := hin m hm
     rw [← hX] at hinc
     have hUl := hus.1
     refine Ends.skip (Ends.block (Ends.seq (Ends.region ?_)))
     refine S.val hA (R.fieldAddr (q := 5) fi25_5 rfl rfl rfl) rfl ?_; clear hA a; intro a hA
     refine S.val hA (R.load sz23 rfl (hM.cell (k := 2) rfl rfl)) rfl ?_; clear hA a; intro a hA
     refine S.val hA (R.move rfl) rfl ?_; clear hA a; intro a hA
     refine S.val hA (R.lenS Try.underlying22 rfl rfl) rfl ?_; clear hA a; intro a hA
     refine S.val hA (R.idxR hx5 (j := X.length) sl23 rfl rfl (by omega) (rfl)) rfl ?_; clear hA a; intro a hA
     obtain ⟨ra20, rc21, hrow22, hld23⟩ := hx5.atP (i := X.length) (by omega)
     refine S.val hA (hld23 _ _ _ _ _ _ hM sz22 rfl) rfl ?_; clear hA a; intro a hA
     refine S.val hA (R.assign rfl) rfl ?_; clear hA a; intro a hA
     refine S.done ?_
     replace hA : St 85 [(1, _), (5, _), (6, _), (7, _)] a := hA.sub ((.cons rfl (.cons rfl (.cons rfl (.cons rfl .nil)))))
     refine Ends.seq (Ends.seq (Ends.region ?_))
     refine S.val hA (R.fieldAddr (q := 0) fi25_0 rfl rfl rfl) rfl ?_; clear hA a; intro a hA
     refine S.val hA (R.load sz3 rfl (hM.cell (k := 2) rfl rfl)) rfl ?_; clear hA a; intro a hA
     refine S.val hA (R.eql rfl rfl) rfl ?_; clear hA a; intro a hA
     refine S.done ?_
     refine Ends.ite hA rfl (fun hc24 => ?_) (fun hc24 => ?_)
     ·
      have hlast : 0 ≤ X.getD (X.length - 1) 0 ∧ X.getD (X.length - 1) 0 < (i.n.toNat : Int) := hinc.1.2 _ (getD_mem (by omega))
      refine Ends.drawn (Mem w nof [own 3 1 (.slice ya X.length yc) X.length (X.map (Value.int .i64)), pt b9 ((boo U)) 52, pt b1 #[.int .i64 i.kind, .int .i64 i.n, .int .i64 i.cap, .slice ax3 i.wt.length cx3, .slice ax4 i.vl.length cx4, .slice ax5 i.cost.length cx5] 25]) (.cons (0, true) (.cons (1, true) (.cons (2, true) (.cons (3, true) (.cons (4, true) (.cons (5, true) (.cons (6, true) (.cons (7, true) (.cons (8, true) (.cons (9, true) (.cons (10, true) .nil))))))))))) 11 mixed (by kernel_rfl) (by kernel_rfl) (by kernel_rfl) hM.drew ?_
      replace hM := hM.drew
      refine D.valF hA rfl (fun _ => R.fieldAddr (q := 5) fi25_5 rfl rfl rfl) rfl ?_; clear hA a; intro a hA
      refine D.val hA rfl (by kernel_rfl) (fun _ hM => R.load sz23 rfl (hM.cell (k := 2) rfl rfl)) rfl ?_; clear hA a; intro a hA
      refine D.valF hA rfl (fun _ => R.move rfl) rfl ?_; clear hA a; intro a hA
      refine D.valF hA rfl (fun _ => R.move rfl) rfl ?_; clear hA a; intro a hA
      refine D.valF hA rfl (fun _ => R.lenS Try.underlying22 rfl rfl) rfl ?_; clear hA a; intro a hA
      refine D.valF hA rfl (fun _ => R.subI rfl rfl (r := ((X.length - 1 : Nat) : Int)) (by omega) (by omega)) rfl ?_; clear hA a; intro a hA
      refine D.valF hA rfl (fun _ => R.idxI (hM.rsl (k := 0) rfl) (j := (X.length - 1)) sl22 rfl rfl (by omega) (by omega)) rfl ?_; clear hA a; intro a hA
      refine D.val hA rfl (by kernel_rfl) (fun _ hM => R.loadI (hM.rsl (k := 0) rfl) sz3 rfl (by omega)) rfl ?_; clear hA a; intro a hA
      refine D.valF hA rfl (fun _ => R.idxR hx5 (j := (X.getD ((X.length - 1)) 0).toNat) sl23 rfl rfl (by omega) (rfl)) rfl ?_; clear hA a; intro a hA
      obtain ⟨ra25, rc26, hrow27, hld28⟩ := hx5.atP (i := (X.getD ((X.length - 1)) 0).toNat) (by omega)
      refine D.val hA rfl (by kernel_rfl) (fun _ hM => hld28 _ _ _ _ _ _ hM sz22 rfl) rfl ?_; clear hA a; intro a hA
      refine D.valF hA rfl (fun _ => R.assign rfl) rfl ?_; clear hA a; intro a hA
      refine D.done ?_
      replace hA : St 85 [(1, _), (5, _), (6, _), (7, _)] a := hA.sub ((.cons rfl (.cons rfl (.cons rfl (.cons rfl .nil)))))
      refine Ends.seq ?_
      have hrl := hrow ((X.getD ((X.length - 1)) 0).toNat) (by omega)
      obtain ⟨Rw, hRw0⟩ : ∃ Rw, Rw = i.cost.getD ((X.getD ((X.length - 1)) 0).toNat) [] := ⟨_, rfl⟩
      have hRw : rowOf i X = Rw := by rw [hRw0]; unfold rowOf; rw [if_pos hk3]
      rw [← hRw0] at hA hrow27 hrl
      obtain ⟨q, hq⟩ : ∃ q : Nat, chI Rw X i.n.toNat = (q : Int) := ⟨(chI Rw X i.n.toNat).toNat, by have := chI_pos Rw X i.n.toNat (free_col (by omega)); omega⟩
      have hqn : q < i.n.toNat := by have := chI_bd Rw X i.n.toNat; omega
      have hst : X ++ [(q : Int)] = rwA i (m + 1) := by rw [rwA, ← hX, hRw, hq]
      have hus2 := us_add hus (q := q) (by omega)
      refine Ends.region ?_
      refine S.val hA (R.to (v := .int .i64 (chI Rw X 0)) (R.assign rfl) (rfl)) rfl ?_; clear hA a; intro a hA
      refine S.done ?_
      refine Ends.seq (Ends.seq (Ends.region ?_))
      refine S.val hA (R.assign rfl) rfl ?_; clear hA a; intro a hA
      refine S.done ?_
      refine Ends.block ?_
      refine Ends.loop (σ := Nat) (fun z (a : Act) (wv : World) => St 85 [(1, .pointer (some ⟨b1, 0, none⟩)), (5, .pointer (some ⟨b9, 0, none⟩)), (6, .slice ya X.length yc), (7, .slice ra25 Rw.length rc26), (8, .int .i64 (chI Rw X z)), (9, .int .i64 ((z : Int)))] a ∧ Mem w nof [own 3 1 (.slice ya X.length yc) X.length (X.map (Value.int .i64)), pt b9 ((boo U)) 52, pt b1 #[.int .i64 i.kind, .int .i64 i.n, .int .i64 i.cap, .slice ax3 i.wt.length cx3, .slice ax4 i.vl.length cx4, .slice ax5 i.cost.length cx5] 25] wv ∧ (z ≤ i.n.toNat)) (fun z => i.n.toNat - z) 0 ⟨hA.sub ((.cons rfl (.cons rfl (.cons rfl (.cons rfl (.cons rfl (.cons rfl .nil))))))), hM, (Nat.zero_le _)⟩ ?_
      clear hA hM a
      rintro z a w10 ⟨hA, hM, hkz⟩ hNext1
      refine Ends.seq (Ends.seq (Ends.region ?_))
      refine S.val hA (R.move rfl) rfl ?_; clear hA a; intro a hA
      refine S.val hA (R.fieldAddr (q := 1) fi25_1 rfl rfl rfl) rfl ?_; clear hA a; intro a hA
      refine S.val hA (R.load sz3 rfl (hM.cell (k := 2) rfl rfl)) rfl ?_; clear hA a; intro a hA
      refine S.val hA (R.lss rfl rfl) rfl ?_; clear hA a; intro a hA
      refine S.done ?_
      refine Ends.ite hA rfl (fun hc29 => ?_) (fun hc29 => ?_)
      ·
       have hcb := chI_bd Rw X z
       have hu := hus.2 z (by omega)
       refine Ends.skip (Ends.seq (Ends.block (Ends.seq ?_)))
       refine Ends.cut (fun (a : Act) (wv : World) => St 85 [(1, .pointer (some ⟨b1, 0, none⟩)), (5, .pointer (some ⟨b9, 0, none⟩)), (6, .slice ya X.length yc), (7, .slice ra25 Rw.length rc26), (8, .int .i64 (chI Rw X z)), (9, .int .i64 ((z : Int))), (76, .bool (decide ((¬ ((z : Int) ∈ X) ∧ ((chI Rw X z) < 0 ∨ (Rw.getD z 0) < (Rw.getD ((chI Rw X z).toNat) 0))))))] a ∧ Mem w nof [own 3 1 (.slice ya X.length yc) X.length (X.map (Value.int .i64)), pt b9 ((boo U)) 52, pt b1 #[.int .i64 i.kind, .int .i64 i.n, .int .i64 i.cap, .slice ax3 i.wt.length cx3, .slice ax4 i.vl.length cx4, .slice ax5 i.cost.length cx5] 25] wv) ?_ (fun k2 hJ => ?_)
       ·
        clear hA hM a; rintro a w11 ⟨hA, hM⟩
        refine Ends.ite hA rfl (fun hc30 => ?_) (fun hc30 => ?_)
        ·
         have hs9 : chI Rw X (z + 1) = (z : Int) := by
          rw [chI]; exact if_pos hc30
         refine Ends.region ?_
         refine S.val hA (R.move rfl) rfl ?_; clear hA a; intro a hA
         refine S.val hA (R.to (v := .int .i64 (chI Rw X (z + 1))) (R.assign rfl) (congrArg (Value.int .i64) hs9.symm)) rfl ?_; clear hA a; intro a hA
         refine S.done ?_
         refine Ends.inBlock (Ends.region ?_)
         refine S.val hA (R.move rfl) rfl ?_; clear hA a; intro a hA
         refine S.val hA (R.addI rfl rfl (r := ((z : Int)) + 1) rfl (by omega)) rfl ?_; clear hA a; intro a hA
         refine S.val hA (R.assign rfl) rfl ?_; clear hA a; intro a hA
         refine S.done ?_
         replace hA : St 85 [(1, _), (5, _), (6, _), (7, _), (8, _), (9, _)] a := hA.sub ((.cons rfl (.cons rfl (.cons rfl (.cons rfl (.cons rfl (.cons rfl .nil)))))))
         exact hNext1 ((z + 1)) _ _ ((by show i.n.toNat - (z + 1) < i.n.toNat - z; omega)) ⟨hA.sub ((.cons rfl (.cons rfl (.cons rfl (.cons rfl (.cons rfl (.cons rfl .nil))))))), hM, (by omega)⟩
        ·
         have hs9 : chI Rw X (z + 1) = chI Rw X z := by
          rw [chI]; exact if_neg hc30
         refine Ends.skip (Ends.inBlock (Ends.region ?_))
         refine S.val hA (R.move rfl) rfl ?_; clear hA a; intro a hA
         refine S.val hA (R.addI rfl rfl (r := ((z : Int)) + 1) rfl (by omega)) rfl ?_; clear hA a; intro a hA
         refine S.val hA (R.assign rfl) rfl ?_; clear hA a; intro a hA
         refine S.done ?_
         rw [← hs9] at hA
         exact hNext1 ((z + 1)) _ _ ((by show i.n.toNat - (z + 1) < i.n.toNat - z; omega)) ⟨hA.sub ((.cons rfl (.cons rfl (.cons rfl (.cons rfl (.cons rfl (.cons rfl .nil))))))), hM, (by omega)⟩
       ·
        refine Ends.drawn (Mem w nof [own 3 1 (.slice ya X.length yc) X.length (X.map (Value.int .i64)), pt b9 ((boo U)) 52, pt b1 #[.int .i64 i.kind, .int .i64 i.n, .int .i64 i.cap, .slice ax3 i.wt.length cx3, .slice ax4 i.vl.length cx4, .slice ax5 i.cost.length cx5] 25]) (.cons (0, true) (.cons (1, true) (.cons (2, true) (.cons (3, true) (.cons (4, true) (.cons (5, true) (.cons (6, true) (.cons (7, true) (.cons (8, true) (.cons (9, true) (.cons (10, true) (.cons (11, true) (.cons (12, true) (.cons (13, true) (.cons (14, true) (.cons (15, true) (.cons (16, true) (.cons (17, true) (.cons (18, true) .nil))))))))))))))))))) 19 mixed (by kernel_rfl) (by kernel_rfl) (by kernel_rfl) hM.drew ?_
        replace hM := hM.drew
        refine D.valF hA rfl (fun _ => R.move rfl) rfl ?_; clear hA a; intro a hA
        refine D.valF hA rfl (fun _ => R.indexAddrA (q := z) ar52 rfl rfl (by omega) (by omega)) rfl ?_; clear hA a; intro a hA
        refine D.val hA rfl (by kernel_rfl) (fun _ hM => R.to (v := .bool (decide ((z : Int) ∈ X))) (R.load sz4 rfl (hM.cell (k := 1) rfl (boo_get U z (by omega)))) (congrArg Value.bool hu)) rfl ?_; clear hA a; intro a hA
        refine D.valF hA rfl (fun _ => R.notD rfl) rfl ?_; clear hA a; intro a hA
        refine D.valF hA rfl (fun _ => R.move rfl) rfl ?_; clear hA a; intro a hA
        refine hA.split (d := 62) rfl ?_ ?_
        ·
         clear hA; intro hg31 hA
         refine D.valgF (dj := 62) hA rfl (by kernel_rfl) rfl (fun _ => R.move rfl) rfl ?_; clear hA a; intro a hA
         refine D.valgF (dj := 62) hA rfl (by kernel_rfl) rfl (fun _ => R.lss rfl rfl) rfl ?_; clear hA a; intro a hA
         refine D.valgF (dj := 62) hA rfl (by kernel_rfl) rfl (fun _ => R.move rfl) rfl ?_; clear hA a; intro a hA
         refine hA.split (d := 65) rfl ?_ ?_
         ·
          clear hA; intro hg32 hA
          refine D.no (dj := 65) hA rfl (by kernel_rfl) rfl rfl rfl ?_; clear hA a; intro a hA
          refine D.no (dj := 65) hA rfl (by kernel_rfl) rfl rfl rfl ?_; clear hA a; intro a hA
          refine D.no (dj := 65) hA rfl (by kernel_rfl) rfl rfl rfl ?_; clear hA a; intro a hA
          refine D.no (dj := 65) hA rfl (by kernel_rfl) rfl rfl rfl ?_; clear hA a; intro a hA
          refine D.no (dj := 65) hA rfl (by kernel_rfl) rfl rfl rfl ?_; clear hA a; intro a hA
          refine D.no (dj := 65) hA rfl (by kernel_rfl) rfl rfl rfl ?_; clear hA a; intro a hA
          refine D.no (dj := 65) hA rfl (by kernel_rfl) rfl rfl rfl ?_; clear hA a; intro a hA
          refine D.no (dj := 65) hA rfl (by kernel_rfl) rfl rfl rfl ?_; clear hA a; intro a hA
          refine D.no (dj := 65) hA rfl (by kernel_rfl) rfl rfl rfl ?_; clear hA a; intro a hA
          refine D.valgF (dj := 62) hA rfl (by kernel_rfl) rfl (fun _ => R.pickT rfl rfl) rfl ?_; clear hA a; intro a hA
          refine D.valF hA rfl (fun _ => R.pickT rfl rfl) rfl ?_; clear hA a; intro a hA
          refine D.done ?_
          replace hA : St 85 [(1, _), (5, _), (6, _), (7, _), (8, _), (9, _), (76, _)] a := hA.sub ((.cons rfl (.cons rfl (.cons rfl (.cons rfl (.cons rfl (.cons rfl (.cons rfl .nil))))))))
          exact hJ _ _ ⟨hA.sub (.cons rfl (.cons rfl (.cons rfl (.cons rfl (.cons rfl (.cons rfl (.cons (by first | rfl | exact congrArg (fun b => some (Value.bool b)) (by first | exact decide_eq_decide.2 (by omega) | exact or_bool (by omega) | exact and_bool (by omega) | (simp; done) | (simp [hg31, hg32]; done) | (have h80 := hg31; (try simp at h80); have h81 := hg32; (try simp at h81); simp [h80, h81]; done) | exact (decide_eq_false (fun h9 => hg31 h9.1)).symm | exact (decide_eq_false (fun h9 => hg32 h9.1)).symm)) .nil))))))), hM⟩
         ·
          clear hA; intro hg32 hA
          refine D.valgF (dj := 65) hA rfl (by kernel_rfl) rfl (fun _ => R.move rfl) rfl ?_; clear hA a; intro a hA
          refine D.valgF (dj := 65) hA rfl (by kernel_rfl) rfl (fun _ => R.move rfl) rfl ?_; clear hA a; intro a hA
          refine D.valgF (dj := 65) hA rfl (by kernel_rfl) rfl (fun _ => R.idxI hrow27 (j := z) sl22 rfl rfl (by omega) (rfl)) rfl ?_; clear hA a; intro a hA
          refine D.valg (dj := 65) hA rfl (by kernel_rfl) (by kernel_rfl) rfl (fun _ hM => R.loadI (hrow27.mem hM) sz3 rfl (by omega)) rfl ?_; clear hA a; intro a hA
          refine D.valgF (dj := 65) hA rfl (by kernel_rfl) rfl (fun _ => R.move rfl) rfl ?_; clear hA a; intro a hA
          refine D.valgF (dj := 65) hA rfl (by kernel_rfl) rfl (fun _ => R.move rfl) rfl ?_; clear hA a; intro a hA
          refine D.valgF (dj := 65) hA rfl (by kernel_rfl) rfl (fun _ => R.idxI hrow27 (j := (chI Rw X z).toNat) sl22 rfl rfl (by omega) (rfl)) rfl ?_; clear hA a; intro a hA
          refine D.valg (dj := 65) hA rfl (by kernel_rfl) (by kernel_rfl) rfl (fun _ hM => R.loadI (hrow27.mem hM) sz3 rfl (by omega)) rfl ?_; clear hA a; intro a hA
          refine D.valgF (dj := 65) hA rfl (by kernel_rfl) rfl (fun _ => R.lss rfl rfl) rfl ?_; clear hA a; intro a hA
          refine D.valgF (dj := 62) hA rfl (by kernel_rfl) rfl (fun _ => R.pickF rfl rfl) rfl ?_; clear hA a; intro a hA
          refine D.valF hA rfl (fun _ => R.pickT rfl rfl) rfl ?_; clear hA a; intro a hA
          refine D.done ?_
          replace hA : St 85 [(1, _), (5, _), (6, _), (7, _), (8, _), (9, _), (76, _)] a := hA.sub ((.cons rfl (.cons rfl (.cons rfl (.cons rfl (.cons rfl (.cons rfl (.cons rfl .nil))))))))
          exact hJ _ _ ⟨hA.sub (.cons rfl (.cons rfl (.cons rfl (.cons rfl (.cons rfl (.cons rfl (.cons (by first | rfl | exact congrArg (fun b => some (Value.bool b)) (by first | exact decide_eq_decide.2 (by omega) | exact or_bool (by omega) | exact and_bool (by omega) | (simp; done) | (simp [hg31, hg32]; done) | (have h80 := hg31; (try simp at h80); have h81 := hg32; (try simp at h81); simp [h80, h81]; done) | exact (decide_eq_false (fun h9 => hg31 h9.1)).symm | exact (decide_eq_false (fun h9 => hg32 h9.1)).symm)) .nil))))))), hM⟩
        ·
         clear hA; intro hg31 hA
         refine D.no (dj := 62) hA rfl (by kernel_rfl) rfl rfl rfl ?_; clear hA a; intro a hA
         refine D.no (dj := 62) hA rfl (by kernel_rfl) rfl rfl rfl ?_; clear hA a; intro a hA
         refine D.no (dj := 62) hA rfl (by kernel_rfl) rfl rfl rfl ?_; clear hA a; intro a hA
         refine D.noU (dj := 65) hA rfl (by kernel_rfl) rfl rfl ?_; clear hA a; intro a hA
         refine D.noU (dj := 65) hA rfl (by kernel_rfl) rfl rfl ?_; clear hA a; intro a hA
         refine D.noU (dj := 65) hA rfl (by kernel_rfl) rfl rfl ?_; clear hA a; intro a hA
         refine D.noU (dj := 65) hA rfl (by kernel_rfl) rfl rfl ?_; clear hA a; intro a hA
         refine D.noU (dj := 65) hA rfl (by kernel_rfl) rfl rfl ?_; clear hA a; intro a hA
         refine D.noU (dj := 65) hA rfl (by kernel_rfl) rfl rfl ?_; clear hA a; intro a hA
         refine D.noU (dj := 65) hA rfl (by kernel_rfl) rfl rfl ?_; clear hA a; intro a hA
         refine D.noU (dj := 65) hA rfl (by kernel_rfl) rfl rfl ?_; clear hA a; intro a hA
         refine D.noU (dj := 65) hA rfl (by kernel_rfl) rfl rfl ?_; clear hA a; intro a hA
         refine D.no (dj := 62) hA rfl (by kernel_rfl) rfl rfl rfl ?_; clear hA a; intro a hA
         refine D.valF hA rfl (fun _ => R.pickF rfl rfl) rfl ?_; clear hA a; intro a hA
         refine D.done ?_
         replace hA : St 85 [(1, _), (5, _), (6, _), (7, _), (8, _), (9, _), (76, _)] a := hA.sub ((.cons rfl (.cons rfl (.cons rfl (.cons rfl (.cons rfl (.cons rfl (.cons rfl .nil))))))))
         exact hJ _ _ ⟨hA.sub (.cons rfl (.cons rfl (.cons rfl (.cons rfl (.cons rfl (.cons rfl (.cons (by first | rfl | exact congrArg (fun b => some (Value.bool b)) (by first | exact decide_eq_decide.2 (by omega) | exact or_bool (by omega) | exact and_bool (by omega) | (simp; done) | (simp [hg31]; done) | (have h80 := hg31; (try simp at h80); simp [h80]; done) | exact (decide_eq_false (fun h9 => hg31 h9.1)).symm)) .nil))))))), hM⟩
      ·
       have hze : z = i.n.toNat := by omega
       refine Ends.exit rfl ?_
       replace hA : St 85 [(1, _), (5, _), (6, _), (8, _)] a := hA.sub ((.cons rfl (.cons rfl (.cons rfl (.cons rfl .nil)))))
       refine Ends.seq ?_
       rw [hze, hq] at hA
       refine Ends.region ?_
       refine S.val hA (R.move rfl) rfl ?_; clear hA a; intro a hA
       refine S.val hA (R.indexAddrA (q := q) ar52 rfl rfl (by omega) (by omega)) rfl ?_; clear hA a; intro a hA
       refine S.store (k := 1) hA hM sz4 rfl rfl rfl rfl (boo_get _ _ (by omega)) ?_; clear hM
       intro w12 hM
       rw [boo_set] at hM
       replace hM : Mem _ _ [own 3 1 (.slice ya X.length yc) X.length (X.map (Value.int .i64)), pt b9 ((boo (U.set q true))) 52, pt b1 #[.int .i64 i.kind, .int .i64 i.n, .int .i64 i.cap, .slice ax3 i.wt.length cx3, .slice ax4 i.vl.length cx4, .slice ax5 i.cost.length cx5] 25] _ := hM
       refine S.done ?_
       refine Ends.region ?_
       refine S.val hA (R.move rfl) rfl ?_; clear hA a; intro a hA
       refine S.val hA (R.move rfl) rfl ?_; clear hA a; intro a hA
       refine S.buildSl (cells := #[.int .i64 ((q : Int))]) hA hM Try.underlying22 info3 rfl rfl rfl rfl (by kernel_rfl) rfl ?_; clear hA hM a; intro b33 w13 hb34 hM a hA
       replace hM : Mem _ _ [pt b33 #[.int .i64 ((q : Int))] 3, own 3 1 (.slice ya X.length yc) X.length (X.map (Value.int .i64)), pt b9 ((boo (U.set q true))) 52, pt b1 #[.int .i64 i.kind, .int .i64 i.n, .int .i64 i.cap, .slice ax3 i.wt.length cx3, .slice ax4 i.vl.length cx4, .slice ax5 i.cost.length cx5] 25] _ := hM
       refine S.append (k := 1) (k2 := 0) hA hM rfl rfl Try.underlying22 info3 rfl rfl rfl rfl rfl rfl rfl rfl rfl (by first | decide | (unfold maxLen; omega) | (show (_ + 1) * 8 ≤ (140737488355328 : Nat); omega) | omega) (by first | decide | (unfold maxLen; omega) | (show (_ + 1) * 8 ≤ (140737488355328 : Nat); omega) | omega) rfl ?_; clear hA hM a; intro a35 c36 w14 hM a hA
       replace hM : Mem _ _ [pt b33 #[.int .i64 ((q : Int))] 3, own 3 1 (.slice a35 (X.length + 1) c36) (X.length + 1) (X.map (Value.int .i64) ++ [.int .i64 ((q : Int))]), pt b9 ((boo (U.set q true))) 52, pt b1 #[.int .i64 i.kind, .int .i64 i.n, .int .i64 i.cap, .slice ax3 i.wt.length cx3, .slice ax4 i.vl.length cx4, .slice ax5 i.cost.length cx5] 25] _ := hM
       have hl37 : X.length + 1 = (X ++ [(q : Int)]).length := by simp
       rw [hl37, show X.map (Value.int .i64) ++ [.int .i64 ((q : Int))] = (X ++ [(q : Int)]).map (Value.int .i64) by simp] at hM; rw [hl37] at hA
       clear hl37
       replace hM := hM.drop 0
       replace hM : Mem _ _ [own 3 1 (.slice a35 (((X ++ [(q : Int)])).length) c36) (((X ++ [(q : Int)])).length) (((X ++ [(q : Int)])).map (Value.int .i64)), pt b9 ((boo (U.set q true))) 52, pt b1 #[.int .i64 i.kind, .int .i64 i.n, .int .i64 i.cap, .slice ax3 i.wt.length cx3, .slice ax4 i.vl.length cx4, .slice ax5 i.cost.length cx5] 25] _ := hM
       refine S.val hA (R.assign rfl) rfl ?_; clear hA a; intro a hA
       refine S.done ?_
       replace hA : St 85 [(1, _), (5, _), (6, _)] a := hA.sub ((.cons rfl (.cons rfl (.cons rfl .nil))))
       refine Ends.inBlock ?_
       replace hM := hM.front (k := 2) rfl
       replace hM := hM.front (k := 2) rfl
       replace hM := hM.front (k := 2) rfl
       replace hM : Mem _ _ [own 3 1 (.slice a35 (((X ++ [(q : Int)])).length) c36) (((X ++ [(q : Int)])).length) (((X ++ [(q : Int)])).map (Value.int .i64)), pt b9 ((boo (U.set q true))) 52, pt b1 #[.int .i64 i.kind, .int .i64 i.n, .int .i64 i.cap, .slice ax3 i.wt.length cx3, .slice ax4 i.vl.length cx4, .slice ax5 i.cost.length cx5] 25] _ := hM
       exact hNext ((m + 1, (X ++ [(q : Int)]), a35, c36, (U.set q true))) _ _ ((by show i.n.toNat - (m + 1) < i.n.toNat - m; omega)) ⟨hA.sub ((.cons rfl (.cons rfl (.cons rfl .nil)))), hM, (by omega), hst, hus2⟩
     · exact absurd hk3 hc24
    ·
     have hXl : X.length = frm i + m := by rw [hX, rwA_len]
     have hinc := hin m hm
     rw [← hX] at hinc
     have hUl := hus.1
     have hmn : m = i.n.toNat - frm i := by omega
     refine Ends.exit rfl ?_
     refine Ends.seq (Ends.region ?_)
     refine S.val hA (R.move rfl) rfl ?_; clear hA a; intro a hA
     refine S.val hA (R.assign rfl) rfl ?_; clear hA a; intro a hA
     refine S.val hA (R.assign rfl) rfl ?_; clear hA a; intro a hA
     refine S.done ?_
     replace hA : St 85 [(2, _), (3, _)] a := hA.sub ((.cons rfl (.cons rfl .nil)))
     refine Ends.ret2 Try.func25 Try.results25 hA rfl rfl ?_
     rw [hmn] at hX
     subst hX
     have hr := hM.rsl (k := 0) (X := rwA i (i.n.toNat - frm i)) rfl
     rw [show frI i = rwA i (i.n.toNat - frm i) from frI_rw hz hk1, hz]
     exact ⟨_, _, rfl, hr, Mem.trans0 hbs hM.nilL⟩
   ·
    have hk3 := hc13
    have hfr : frm i = 0 := if_neg hk3
    refine Ends.skip (Ends.seq (Ends.block ?_))
    replace hM := hM.front (k := 2) rfl
    replace hM := hM.front (k := 2) rfl
    replace hM := hM.front (k := 2) rfl
    refine Ends.loop (σ := Nat × List Int × Option Addr × Nat × List Bool) (fun (m, X, ya, yc, U) (a : Act) (wv : World) => St 85 [(1, .pointer (some ⟨b1, 0, none⟩)), (5, .pointer (some ⟨b9, 0, none⟩)), (6, .slice ya X.length yc)] a ∧ Mem w nof [own 3 1 (.slice ya X.length yc) X.length (X.map (Value.int .i64)), pt b9 ((boo U)) 52, pt b1 #[.int .i64 i.kind, .int .i64 i.n, .int .i64 i.cap, .slice ax3 i.wt.length cx3, .slice ax4 i.vl.length cx4, .slice ax5 i.cost.length cx5] 25] wv ∧ (frm i + m ≤ i.n.toNat) ∧ (X = rwA i m) ∧ (usOK X 24 U)) (fun (m, X, ya, yc, U) => i.n.toNat - m) ((0, [], (some ⟨b11, 0, none⟩), 0, (List.replicate 24 false))) ⟨hA.sub ((.cons rfl (.cons rfl (.cons rfl .nil)))), hM, (by omega), (if_neg hk3).symm, (us_nil _)⟩ ?_
    clear hA hM a
    rintro ⟨m, X, ya, yc, U⟩ a w15 ⟨hA, hM, hm, hX, hus⟩ hNext
    refine Ends.seq (Ends.seq (Ends.region ?_))
    refine S.val hA (R.move rfl) rfl ?_; clear hA a; intro a hA
    refine S.val hA (R.lenS Try.underlying22 rfl rfl) rfl ?_; clear hA a; intro a hA
    refine S.val hA (R.fieldAddr (q := 1) fi25_1 rfl rfl rfl) rfl ?_; clear hA a; intro a hA
    refine S.val hA (R.load sz3 rfl (hM.cell (k := 2) rfl rfl)) rfl ?_; clear hA a; intro a hA
    refine S.val hA (R.lss rfl rfl) rfl ?_; clear hA a; intro a hA
    refine S.done ?_
    replace hA : St 85 [(1, _), (5, _), (6, _), (32, _)] a := hA.sub ((.cons rfl (.cons rfl (.cons rfl (.cons rfl .nil)))))
    refine Ends.ite hA rfl (fun hc38 => ?_) (fun hc38 => ?_)
    ·
     have hXl : X.length = frm i + m := by rw [hX, rwA_len]
     have hinc := hin m hm
     rw [← hX] at hinc
     have hUl := hus.1
     refine Ends.skip (Ends.block (Ends.seq (Ends.region ?_)))
     refine S.val hA (R.fieldAddr (q := 5) fi25_5 rfl rfl rfl) rfl ?_; clear hA a; intro a hA
     refine S.val hA (R.load sz23 rfl (hM.cell (k := 2) rfl rfl)) rfl ?_; clear hA a; intro a hA
     refine S.val hA (R.move rfl) rfl ?_; clear hA a; intro a hA
     refine S.val hA (R.lenS Try.underlying22 rfl rfl) rfl ?_; clear hA a; intro a hA
     refine S.val hA (R.idxR hx5 (j := X.length) sl23 rfl rfl (by omega) (rfl)) rfl ?_; clear hA a; intro a hA
     obtain ⟨ra39, rc40, hrow41, hld42⟩ := hx5.atP (i := X.length) (by omega)
     refine S.val hA (hld42 _ _ _ _ _ _ hM sz22 rfl) rfl ?_; clear hA a; intro a hA
     refine S.val hA (R.assign rfl) rfl ?_; clear hA a; intro a hA
     refine S.done ?_
     replace hA : St 85 [(1, _), (5, _), (6, _), (7, _)] a := hA.sub ((.cons rfl (.cons rfl (.cons rfl (.cons rfl .nil)))))
     refine Ends.seq (Ends.seq (Ends.region ?_))
     refine S.val hA (R.fieldAddr (q := 0) fi25_0 rfl rfl rfl) rfl ?_; clear hA a; intro a hA
     refine S.val hA (R.load sz3 rfl (hM.cell (k := 2) rfl rfl)) rfl ?_; clear hA a; intro a hA
     refine S.val hA (R.eql rfl rfl) rfl ?_; clear hA a; intro a hA
     refine S.done ?_
     refine Ends.ite hA rfl (fun hc43 => ?_) (fun hc43 => ?_)
     · exact absurd hc43 hk3
     ·
      refine Ends.skip (Ends.seq ?_)
      have hrl := hrow X.length (by omega)
      obtain ⟨Rw, hRw0⟩ : ∃ Rw, Rw = i.cost.getD X.length [] := ⟨_, rfl⟩
      have hRw : rowOf i X = Rw := by rw [hRw0]; unfold rowOf; rw [if_neg hk3]
      rw [← hRw0] at hA hrow41 hrl
      obtain ⟨q, hq⟩ : ∃ q : Nat, chI Rw X i.n.toNat = (q : Int) := ⟨(chI Rw X i.n.toNat).toNat, by have := chI_pos Rw X i.n.toNat (free_col (by omega)); omega⟩
      have hqn : q < i.n.toNat := by have := chI_bd Rw X i.n.toNat; omega
      have hst : X ++ [(q : Int)] = rwA i (m + 1) := by rw [rwA, ← hX, hRw, hq]
      have hus2 := us_add hus (q := q) (by omega)
      refine Ends.region ?_
      refine S.val hA (R.to (v := .int .i64 (chI Rw X 0)) (R.assign rfl) (rfl)) rfl ?_; clear hA a; intro a hA
      refine S.done ?_
      refine Ends.seq (Ends.seq (Ends.region ?_))
      refine S.val hA (R.assign rfl) rfl ?_; clear hA a; intro a hA
      refine S.done ?_
      refine Ends.block ?_
      refine Ends.loop (σ := Nat) (fun z (a : Act) (wv : World) => St 85 [(1, .pointer (some ⟨b1, 0, none⟩)), (5, .pointer (some ⟨b9, 0, none⟩)), (6, .slice ya X.length yc), (7, .slice ra39 Rw.length rc40), (8, .int .i64 (chI Rw X z)), (9, .int .i64 ((z : Int)))] a ∧ Mem w nof [own 3 1 (.slice ya X.length yc) X.length (X.map (Value.int .i64)), pt b9 ((boo U)) 52, pt b1 #[.int .i64 i.kind, .int .i64 i.n, .int .i64 i.cap, .slice ax3 i.wt.length cx3, .slice ax4 i.vl.length cx4, .slice ax5 i.cost.length cx5] 25] wv ∧ (z ≤ i.n.toNat)) (fun z => i.n.toNat - z) 0 ⟨hA.sub ((.cons rfl (.cons rfl (.cons rfl (.cons rfl (.cons rfl (.cons rfl .nil))))))), hM, (Nat.zero_le _)⟩ ?_
      clear hA hM a
      rintro z a w16 ⟨hA, hM, hkz⟩ hNext1
      refine Ends.seq (Ends.seq (Ends.region ?_))
      refine S.val hA (R.move rfl) rfl ?_; clear hA a; intro a hA
      refine S.val hA (R.fieldAddr (q := 1) fi25_1 rfl rfl rfl) rfl ?_; clear hA a; intro a hA
      refine S.val hA (R.load sz3 rfl (hM.cell (k := 2) rfl rfl)) rfl ?_; clear hA a; intro a hA
      refine S.val hA (R.lss rfl rfl) rfl ?_; clear hA a; intro a hA
      refine S.done ?_
      refine Ends.ite hA rfl (fun hc44 => ?_) (fun hc44 => ?_)
      ·
       have hcb := chI_bd Rw X z
       have hu := hus.2 z (by omega)
       refine Ends.skip (Ends.seq (Ends.block (Ends.seq ?_)))
       refine Ends.cut (fun (a : Act) (wv : World) => St 85 [(1, .pointer (some ⟨b1, 0, none⟩)), (5, .pointer (some ⟨b9, 0, none⟩)), (6, .slice ya X.length yc), (7, .slice ra39 Rw.length rc40), (8, .int .i64 (chI Rw X z)), (9, .int .i64 ((z : Int))), (76, .bool (decide ((¬ ((z : Int) ∈ X) ∧ ((chI Rw X z) < 0 ∨ (Rw.getD z 0) < (Rw.getD ((chI Rw X z).toNat) 0))))))] a ∧ Mem w nof [own 3 1 (.slice ya X.length yc) X.length (X.map (Value.int .i64)), pt b9 ((boo U)) 52, pt b1 #[.int .i64 i.kind, .int .i64 i.n, .int .i64 i.cap, .slice ax3 i.wt.length cx3, .slice ax4 i.vl.length cx4, .slice ax5 i.cost.length cx5] 25] wv) ?_ (fun k2 hJ => ?_)
       ·
        clear hA hM a; rintro a w17 ⟨hA, hM⟩
        refine Ends.ite hA rfl (fun hc45 => ?_) (fun hc45 => ?_)
        ·
         have hs9 : chI Rw X (z + 1) = (z : Int) := by
          rw [chI]; exact if_pos hc45
         refine Ends.region ?_
         refine S.val hA (R.move rfl) rfl ?_; clear hA a; intro a hA
         refine S.val hA (R.to (v := .int .i64 (chI Rw X (z + 1))) (R.assign rfl) (congrArg (Value.int .i64) hs9.symm)) rfl ?_; clear hA a; intro a hA
         refine S.done ?_
         refine Ends.inBlock (Ends.region ?_)
         refine S.val hA (R.move rfl) rfl ?_; clear hA a; intro a hA
         refine S.val hA (R.addI rfl rfl (r := ((z : Int)) + 1) rfl (by omega)) rfl ?_; clear hA a; intro a hA
         refine S.val hA (R.assign rfl) rfl ?_; clear hA a; intro a hA
         refine S.done ?_
         replace hA : St 85 [(1, _), (5, _), (6, _), (7, _), (8, _), (9, _)] a := hA.sub ((.cons rfl (.cons rfl (.cons rfl (.cons rfl (.cons rfl (.cons rfl .nil)))))))
         exact hNext1 ((z + 1)) _ _ ((by show i.n.toNat - (z + 1) < i.n.toNat - z; omega)) ⟨hA.sub ((.cons rfl (.cons rfl (.cons rfl (.cons rfl (.cons rfl (.cons rfl .nil))))))), hM, (by omega)⟩
        ·
         have hs9 : chI Rw X (z + 1) = chI Rw X z := by
          rw [chI]; exact if_neg hc45
         refine Ends.skip (Ends.inBlock (Ends.region ?_))
         refine S.val hA (R.move rfl) rfl ?_; clear hA a; intro a hA
         refine S.val hA (R.addI rfl rfl (r := ((z : Int)) + 1) rfl (by omega)) rfl ?_; clear hA a; intro a hA
         refine S.val hA (R.assign rfl) rfl ?_; clear hA a; intro a hA
         refine S.done ?_
         rw [← hs9] at hA
         exact hNext1 ((z + 1)) _ _ ((by show i.n.toNat - (z + 1) < i.n.toNat - z; omega)) ⟨hA.sub ((.cons rfl (.cons rfl (.cons rfl (.cons rfl (.cons rfl (.cons rfl .nil))))))), hM, (by omega)⟩
       ·
        refine Ends.drawn (Mem w nof [own 3 1 (.slice ya X.length yc) X.length (X.map (Value.int .i64)), pt b9 ((boo U)) 52, pt b1 #[.int .i64 i.kind, .int .i64 i.n, .int .i64 i.cap, .slice ax3 i.wt.length cx3, .slice ax4 i.vl.length cx4, .slice ax5 i.cost.length cx5] 25]) (.cons (0, true) (.cons (1, true) (.cons (2, true) (.cons (3, true) (.cons (4, true) (.cons (5, true) (.cons (6, true) (.cons (7, true) (.cons (8, true) (.cons (9, true) (.cons (10, true) (.cons (11, true) (.cons (12, true) (.cons (13, true) (.cons (14, true) (.cons (15, true) (.cons (16, true) (.cons (17, true) (.cons (18, true) .nil))))))))))))))))))) 19 mixed (by kernel_rfl) (by kernel_rfl) (by kernel_rfl) hM.drew ?_
        replace hM := hM.drew
        refine D.valF hA rfl (fun _ => R.move rfl) rfl ?_; clear hA a; intro a hA
        refine D.valF hA rfl (fun _ => R.indexAddrA (q := z) ar52 rfl rfl (by omega) (by omega)) rfl ?_; clear hA a; intro a hA
        refine D.val hA rfl (by kernel_rfl) (fun _ hM => R.to (v := .bool (decide ((z : Int) ∈ X))) (R.load sz4 rfl (hM.cell (k := 1) rfl (boo_get U z (by omega)))) (congrArg Value.bool hu)) rfl ?_; clear hA a; intro a hA
        refine D.valF hA rfl (fun _ => R.notD rfl) rfl ?_; clear hA a; intro a hA
        refine D.valF hA rfl (fun _ => R.move rfl) rfl ?_; clear hA a; intro a hA
        refine hA.split (d := 62) rfl ?_ ?_
        ·
         clear hA; intro hg46 hA
         refine D.valgF (dj := 62) hA rfl (by kernel_rfl) rfl (fun _ => R.move rfl) rfl ?_; clear hA a; intro a hA
         refine D.valgF (dj := 62) hA rfl (by kernel_rfl) rfl (fun _ => R.lss rfl rfl) rfl ?_; clear hA a; intro a hA
         refine D.valgF (dj := 62) hA rfl (by kernel_rfl) rfl (fun _ => R.move rfl) rfl ?_; clear hA a; intro a hA
         refine hA.split (d := 65) rfl ?_ ?_
         ·
          clear hA; intro hg47 hA
          refine D.no (dj := 65) hA rfl (by kernel_rfl) rfl rfl rfl ?_; clear hA a; intro a hA
          refine D.no (dj := 65) hA rfl (by kernel_rfl) rfl rfl rfl ?_; clear hA a; intro a hA
          refine D.no (dj := 65) hA rfl (by kernel_rfl) rfl rfl rfl ?_; clear hA a; intro a hA
          refine D.no (dj := 65) hA rfl (by kernel_rfl) rfl rfl rfl ?_; clear hA a; intro a hA
          refine D.no (dj := 65) hA rfl (by kernel_rfl) rfl rfl rfl ?_; clear hA a; intro a hA
          refine D.no (dj := 65) hA rfl (by kernel_rfl) rfl rfl rfl ?_; clear hA a; intro a hA
          refine D.no (dj := 65) hA rfl (by kernel_rfl) rfl rfl rfl ?_; clear hA a; intro a hA
          refine D.no (dj := 65) hA rfl (by kernel_rfl) rfl rfl rfl ?_; clear hA a; intro a hA
          refine D.no (dj := 65) hA rfl (by kernel_rfl) rfl rfl rfl ?_; clear hA a; intro a hA
          refine D.valgF (dj := 62) hA rfl (by kernel_rfl) rfl (fun _ => R.pickT rfl rfl) rfl ?_; clear hA a; intro a hA
          refine D.valF hA rfl (fun _ => R.pickT rfl rfl) rfl ?_; clear hA a; intro a hA
          refine D.done ?_
          replace hA : St 85 [(1, _), (5, _), (6, _), (7, _), (8, _), (9, _), (76, _)] a := hA.sub ((.cons rfl (.cons rfl (.cons rfl (.cons rfl (.cons rfl (.cons rfl (.cons rfl .nil))))))))
          exact hJ _ _ ⟨hA.sub (.cons rfl (.cons rfl (.cons rfl (.cons rfl (.cons rfl (.cons rfl (.cons (by first | rfl | exact congrArg (fun b => some (Value.bool b)) (by first | exact decide_eq_decide.2 (by omega) | exact or_bool (by omega) | exact and_bool (by omega) | (simp; done) | (simp [hg46, hg47]; done) | (have h80 := hg46; (try simp at h80); have h81 := hg47; (try simp at h81); simp [h80, h81]; done) | exact (decide_eq_false (fun h9 => hg46 h9.1)).symm | exact (decide_eq_false (fun h9 => hg47 h9.1)).symm)) .nil))))))), hM⟩
         ·
          clear hA; intro hg47 hA
          refine D.valgF (dj := 65) hA rfl (by kernel_rfl) rfl (fun _ => R.move rfl) rfl ?_; clear hA a; intro a hA
          refine D.valgF (dj := 65) hA rfl (by kernel_rfl) rfl (fun _ => R.move rfl) rfl ?_; clear hA a; intro a hA
          refine D.valgF (dj := 65) hA rfl (by kernel_rfl) rfl (fun _ => R.idxI hrow41 (j := z) sl22 rfl rfl (by omega) (rfl)) rfl ?_; clear hA a; intro a hA
          refine D.valg (dj := 65) hA rfl (by kernel_rfl) (by kernel_rfl) rfl (fun _ hM => R.loadI (hrow41.mem hM) sz3 rfl (by omega)) rfl ?_; clear hA a; intro a hA
          refine D.valgF (dj := 65) hA rfl (by kernel_rfl) rfl (fun _ => R.move rfl) rfl ?_; clear hA a; intro a hA
          refine D.valgF (dj := 65) hA rfl (by kernel_rfl) rfl (fun _ => R.move rfl) rfl ?_; clear hA a; intro a hA
          refine D.valgF (dj := 65) hA rfl (by kernel_rfl) rfl (fun _ => R.idxI hrow41 (j := (chI Rw X z).toNat) sl22 rfl rfl (by omega) (rfl)) rfl ?_; clear hA a; intro a hA
          refine D.valg (dj := 65) hA rfl (by kernel_rfl) (by kernel_rfl) rfl (fun _ hM => R.loadI (hrow41.mem hM) sz3 rfl (by omega)) rfl ?_; clear hA a; intro a hA
          refine D.valgF (dj := 65) hA rfl (by kernel_rfl) rfl (fun _ => R.lss rfl rfl) rfl ?_; clear hA a; intro a hA
          refine D.valgF (dj := 62) hA rfl (by kernel_rfl) rfl (fun _ => R.pickF rfl rfl) rfl ?_; clear hA a; intro a hA
          refine D.valF hA rfl (fun _ => R.pickT rfl rfl) rfl ?_; clear hA a; intro a hA
          refine D.done ?_
          replace hA : St 85 [(1, _), (5, _), (6, _), (7, _), (8, _), (9, _), (76, _)] a := hA.sub ((.cons rfl (.cons rfl (.cons rfl (.cons rfl (.cons rfl (.cons rfl (.cons rfl .nil))))))))
          exact hJ _ _ ⟨hA.sub (.cons rfl (.cons rfl (.cons rfl (.cons rfl (.cons rfl (.cons rfl (.cons (by first | rfl | exact congrArg (fun b => some (Value.bool b)) (by first | exact decide_eq_decide.2 (by omega) | exact or_bool (by omega) | exact and_bool (by omega) | (simp; done) | (simp [hg46, hg47]; done) | (have h80 := hg46; (try simp at h80); have h81 := hg47; (try simp at h81); simp [h80, h81]; done) | exact (decide_eq_false (fun h9 => hg46 h9.1)).symm | exact (decide_eq_false (fun h9 => hg47 h9.1)).symm)) .nil))))))), hM⟩
        ·
         clear hA; intro hg46 hA
         refine D.no (dj := 62) hA rfl (by kernel_rfl) rfl rfl rfl ?_; clear hA a; intro a hA
         refine D.no (dj := 62) hA rfl (by kernel_rfl) rfl rfl rfl ?_; clear hA a; intro a hA
         refine D.no (dj := 62) hA rfl (by kernel_rfl) rfl rfl rfl ?_; clear hA a; intro a hA
         refine D.noU (dj := 65) hA rfl (by kernel_rfl) rfl rfl ?_; clear hA a; intro a hA
         refine D.noU (dj := 65) hA rfl (by kernel_rfl) rfl rfl ?_; clear hA a; intro a hA
         refine D.noU (dj := 65) hA rfl (by kernel_rfl) rfl rfl ?_; clear hA a; intro a hA
         refine D.noU (dj := 65) hA rfl (by kernel_rfl) rfl rfl ?_; clear hA a; intro a hA
         refine D.noU (dj := 65) hA rfl (by kernel_rfl) rfl rfl ?_; clear hA a; intro a hA
         refine D.noU (dj := 65) hA rfl (by kernel_rfl) rfl rfl ?_; clear hA a; intro a hA
         refine D.noU (dj := 65) hA rfl (by kernel_rfl) rfl rfl ?_; clear hA a; intro a hA
         refine D.noU (dj := 65) hA rfl (by kernel_rfl) rfl rfl ?_; clear hA a; intro a hA
         refine D.noU (dj := 65) hA rfl (by kernel_rfl) rfl rfl ?_; clear hA a; intro a hA
         refine D.no (dj := 62) hA rfl (by kernel_rfl) rfl rfl rfl ?_; clear hA a; intro a hA
         refine D.valF hA rfl (fun _ => R.pickF rfl rfl) rfl ?_; clear hA a; intro a hA
         refine D.done ?_
         replace hA : St 85 [(1, _), (5, _), (6, _), (7, _), (8, _), (9, _), (76, _)] a := hA.sub ((.cons rfl (.cons rfl (.cons rfl (.cons rfl (.cons rfl (.cons rfl (.cons rfl .nil))))))))
         exact hJ _ _ ⟨hA.sub (.cons rfl (.cons rfl (.cons rfl (.cons rfl (.cons rfl (.cons rfl (.cons (by first | rfl | exact congrArg (fun b => some (Value.bool b)) (by first | exact decide_eq_decide.2 (by omega) | exact or_bool (by omega) | exact and_bool (by omega) | (simp; done) | (simp [hg46]; done) | (have h80 := hg46; (try simp at h80); simp [h80]; done) | exact (decide_eq_false (fun h9 => hg46 h9.1)).symm)) .nil))))))), hM⟩
      ·
       have hze : z = i.n.toNat := by omega
       refine Ends.exit rfl ?_
       replace hA : St 85 [(1, _), (5, _), (6, _), (8, _)] a := hA.sub ((.cons rfl (.cons rfl (.cons rfl (.cons rfl .nil)))))
       refine Ends.seq ?_
       rw [hze, hq] at hA
       refine Ends.region ?_
       refine S.val hA (R.move rfl) rfl ?_; clear hA a; intro a hA
       refine S.val hA (R.indexAddrA (q := q) ar52 rfl rfl (by omega) (by omega)) rfl ?_; clear hA a; intro a hA
       refine S.store (k := 1) hA hM sz4 rfl rfl rfl rfl (boo_get _ _ (by omega)) ?_; clear hM
       intro w18 hM
       rw [boo_set] at hM
       replace hM : Mem _ _ [own 3 1 (.slice ya X.length yc) X.length (X.map (Value.int .i64)), pt b9 ((boo (U.set q true))) 52, pt b1 #[.int .i64 i.kind, .int .i64 i.n, .int .i64 i.cap, .slice ax3 i.wt.length cx3, .slice ax4 i.vl.length cx4, .slice ax5 i.cost.length cx5] 25] _ := hM
       refine S.done ?_
       refine Ends.region ?_
       refine S.val hA (R.move rfl) rfl ?_; clear hA a; intro a hA
       refine S.val hA (R.move rfl) rfl ?_; clear hA a; intro a hA
       refine S.buildSl (cells := #[.int .i64 ((q : Int))]) hA hM Try.underlying22 info3 rfl rfl rfl rfl (by kernel_rfl) rfl ?_; clear hA hM a; intro b48 w19 hb49 hM a hA
       replace hM : Mem _ _ [pt b48 #[.int .i64 ((q : Int))] 3, own 3 1 (.slice ya X.length yc) X.length (X.map (Value.int .i64)), pt b9 ((boo (U.set q true))) 52, pt b1 #[.int .i64 i.kind, .int .i64 i.n, .int .i64 i.cap, .slice ax3 i.wt.length cx3, .slice ax4 i.vl.length cx4, .slice ax5 i.cost.length cx5] 25] _ := hM
       refine S.append (k := 1) (k2 := 0) hA hM rfl rfl Try.underlying22 info3 rfl rfl rfl rfl rfl rfl rfl rfl rfl (by first | decide | (unfold maxLen; omega) | (show (_ + 1) * 8 ≤ (140737488355328 : Nat); omega) | omega) (by first | decide | (unfold maxLen; omega) | (show (_ + 1) * 8 ≤ (140737488355328 : Nat); omega) | omega) rfl ?_; clear hA hM a; intro a50 c51 w20 hM a hA
       replace hM : Mem _ _ [pt b48 #[.int .i64 ((q : Int))] 3, own 3 1 (.slice a50 (X.length + 1) c51) (X.length + 1) (X.map (Value.int .i64) ++ [.int .i64 ((q : Int))]), pt b9 ((boo (U.set q true))) 52, pt b1 #[.int .i64 i.kind, .int .i64 i.n, .int .i64 i.cap, .slice ax3 i.wt.length cx3, .slice ax4 i.vl.length cx4, .slice ax5 i.cost.length cx5] 25] _ := hM
       have hl52 : X.length + 1 = (X ++ [(q : Int)]).length := by simp
       rw [hl52, show X.map (Value.int .i64) ++ [.int .i64 ((q : Int))] = (X ++ [(q : Int)]).map (Value.int .i64) by simp] at hM; rw [hl52] at hA
       clear hl52
       replace hM := hM.drop 0
       replace hM : Mem _ _ [own 3 1 (.slice a50 (((X ++ [(q : Int)])).length) c51) (((X ++ [(q : Int)])).length) (((X ++ [(q : Int)])).map (Value.int .i64)), pt b9 ((boo (U.set q true))) 52, pt b1 #[.int .i64 i.kind, .int .i64 i.n, .int .i64 i.cap, .slice ax3 i.wt.length cx3, .slice ax4 i.vl.length cx4, .slice ax5 i.cost.length cx5] 25] _ := hM
       refine S.val hA (R.assign rfl) rfl ?_; clear hA a; intro a hA
       refine S.done ?_
       replace hA : St 85 [(1, _), (5, _), (6, _)] a := hA.sub ((.cons rfl (.cons rfl (.cons rfl .nil))))
       refine Ends.inBlock ?_
       replace hM := hM.front (k := 2) rfl
       replace hM := hM.front (k := 2) rfl
       replace hM := hM.front (k := 2) rfl
       replace hM : Mem _ _ [own 3 1 (.slice a50 (((X ++ [(q : Int)])).length) c51) (((X ++ [(q : Int)])).length) (((X ++ [(q : Int)])).map (Value.int .i64)), pt b9 ((boo (U.set q true))) 52, pt b1 #[.int .i64 i.kind, .int .i64 i.n, .int .i64 i.cap, .slice ax3 i.wt.length cx3, .slice ax4 i.vl.length cx4, .slice ax5 i.cost.length cx5] 25] _ := hM
       exact hNext ((m + 1, (X ++ [(q : Int)]), a50, c51, (U.set q true))) _ _ ((by show i.n.toNat - (m + 1) < i.n.toNat - m; omega)) ⟨hA.sub ((.cons rfl (.cons rfl (.cons rfl .nil)))), hM, (by omega), hst, hus2⟩
    ·
     have hXl : X.length = frm i + m := by rw [hX, rwA_len]
     have hinc := hin m hm
     rw [← hX] at hinc
     have hUl := hus.1
     have hmn : m = i.n.toNat - frm i := by omega
     refine Ends.exit rfl ?_
     refine Ends.seq (Ends.region ?_)
     refine S.val hA (R.move rfl) rfl ?_; clear hA a; intro a hA
     refine S.val hA (R.assign rfl) rfl ?_; clear hA a; intro a hA
     refine S.val hA (R.assign rfl) rfl ?_; clear hA a; intro a hA
     refine S.done ?_
     replace hA : St 85 [(2, _), (3, _)] a := hA.sub ((.cons rfl (.cons rfl .nil)))
     refine Ends.ret2 Try.func25 Try.results25 hA rfl rfl ?_
     rw [hmn] at hX
     subst hX
     have hr := hM.rsl (k := 0) (X := rwA i (i.n.toNat - frm i)) rfl
     rw [show frI i = rwA i (i.n.toNat - frm i) from frI_rw hz hk1, hz]
     exact ⟨_, _, rfl, hr, Mem.trans0 hbs hM.nilL⟩
end Go.Proofs.Ytnikajkklocncaa
namespace Go.Proofs.Ytnikajkklocncaa
open Go.RowKit Go.WideShapes Go.ChangeShapes Go.Deep
section
variable {H : Type} {enc : TypeId × Value → H} {P : Program} {w : World}
theorem trod_ints {t e : TypeId} {fuel : Nat} {cs : List Value} {x : DataW H × List MemPlace} {held : Bool} (ht : P.underlying t = some (.slice e)) (he : P.underlying e = some (.int .i64)) (hce : P.cellsOf e = 1)
    (h : DataW.trod enc P w 0 (fun _ => true) held fuel t cs = some x) : ∃ (u : Value) (l : List Int), cs = [u] ∧ IntSl w u l ∧ ∀ y ∈ l, (Lit.int .i64 y).wf = true := by
  rcases open_ints ht he hce h with ⟨hcs, _⟩ | ⟨x, len, cap, zs, hcs, _, hl, hm, hz, _, hcell, hwz⟩
  · exact ⟨_, [], hcs, IntSl.nil w, fun x hx => by cases hx⟩
  · simp only [if_true] at hz
    refine ⟨_, zs.take len, hcs, ⟨some x, cap, by rw [List.length_take, Nat.min_eq_left (by omega)], by rw [List.length_take]; omega, hm, (fun h => nomatch h), fun hne => ?_⟩, fun y hy => hwz y (List.mem_of_mem_take hy)⟩
    have h0 : 0 < zs.length ∧ 0 < len := by
      rcases Nat.eq_zero_or_pos len with e | e
      · subst e; simp at hne
      · exact ⟨by omega, e⟩
    obtain ⟨b, off, spot⟩ := x
    have hs : spot = none := by
      have h1 := hcell 0 h0.1
      unfold Addr.add at h1
      simp only [if_true] at h1
      cases spot with
      | none => rfl
      | some s =>
        unfold World.cell? at h1
        split at h1 <;> simp at h1
    subst hs
    refine ⟨b, off, rfl, ?_, fun i hi => ?_⟩
    · have h1 := hcell 0 h0.1
      exact World.block_lt_of_cell? w _ h1
    · rw [List.length_take] at hi
      have h1 := hcell i (by omega)
      rw [Addr.add_lit] at h1
      rw [h1]
      congr 2
      simp only [List.getD_eq_getElem?_getD, List.getElem?_take]
      rw [if_pos (by omega)]
theorem trod_rows {t e f : TypeId} {fuel : Nat} {cs : List Value} {x : DataW H × List MemPlace} {held : Bool} (ht : P.underlying t = some (.slice e)) (hu : P.underlying e = some (.slice f)) (hc1 : P.cellsOf e = 1) (he : P.underlying f = some (.int .i64)) (hce : P.cellsOf f = 1)
  (h : DataW.trod enc P w 0 (fun _ => true) held fuel t cs = some x) : ∃ (u : Value) (R : List (List Int)), cs = [u] ∧ RowsV w u R ∧ ∀ r ∈ R, ∀ y ∈ r, (Lit.int .i64 y).wf = true := by
 rcases open_slice ht h with ⟨hcs, _⟩ | ⟨x, len, cap, m, nn, D, Pl, hcs, hb, hl, hm, hmm, -, hx⟩
 · exact ⟨_, [], hcs, RowsV.nil w, fun x hx => by cases hx⟩
 ·
  simp only [if_true] at hmm
  subst hmm
  have each : ∀ i, i < len → ∃ (u : Value) (l : List Int), w.cell? (x.add i) = some u ∧ IntSl w u l ∧ ∀ y ∈ l, (Lit.int .i64 y).wf = true := by
   intro i hi
   obtain ⟨cs', h1, h2⟩ := hx i (by omega)
   obtain ⟨u, l, rfl, h3, h4⟩ := trod_ints hu he hce h2
   rw [hc1, Nat.mul_one] at h1
   obtain ⟨-, hlen, hcell⟩ := World.cells?_some h1
   have h5 := hcell 0 (by omega)
   refine ⟨u, l, ?_, h3, h4⟩
   have e0 : (x.add i).add 0 = x.add i := by simp [Addr.add]
   rw [e0] at h5
   rw [h5]; rfl
  rcases Nat.eq_zero_or_pos len with e0 | e0
  ·
   subst e0
   exact ⟨_, [], hcs, ⟨some x, _, rfl, hl, hm, (fun h => nomatch h), fun h => absurd rfl h⟩, fun x hx => by cases hx⟩
  let f : Nat → List Int := fun i => if hi : i < len then Classical.choose (Classical.choose_spec (each i hi)) else []
  have hf : ∀ i, i < len → ∃ u, w.cell? (x.add i) = some u ∧ IntSl w u (f i) ∧ ∀ y ∈ f i, (Lit.int .i64 y).wf = true := fun i hi => by
   refine ⟨Classical.choose (each i hi), ?_⟩
   have := Classical.choose_spec (Classical.choose_spec (each i hi))
   simp only [f, hi, dif_pos]
   exact this
  have hlen : ((List.range len).map f).length = len := by simp
  obtain ⟨b, off, spot⟩ := x
  have hs : spot = none := by
   obtain ⟨u, h1, -⟩ := hf 0 e0
   unfold Addr.add at h1
   cases spot with
   | none => rfl
   | some s =>
    unfold World.cell? at h1
    split at h1 <;> simp at h1
  subst hs
  refine ⟨_, (List.range len).map f, hcs, ⟨some ⟨b, off, none⟩, _, by rw [hlen], by rw [hlen]; exact hl, hm, (fun h => nomatch h), fun _ => ⟨b, off, rfl, ?_, fun i hi => ?_⟩⟩, fun r hr => ?_⟩
  ·
   obtain ⟨u, h1, -⟩ := hf 0 e0
   exact World.block_lt_of_cell? w _ h1
  ·
   rw [hlen] at hi
   obtain ⟨u, h1, h2, -⟩ := hf i hi
   rw [Addr.add_lit] at h1
   refine ⟨u, h1, ?_⟩
   rw [show ((List.range len).map f).getD i [] = f i by simp [List.getD, hi]]
   exact h2
  ·
   obtain ⟨i, hi, rfl⟩ := List.mem_map.1 hr
   obtain ⟨u, -, -, h3⟩ := hf i (List.mem_range.1 hi)
   exact h3
def wfI (i : Ins) : Prop := (Lit.int .i64 i.kind).wf = true ∧ (Lit.int .i64 i.n).wf = true ∧ (Lit.int .i64 i.cap).wf = true ∧ (∀ y ∈ i.wt, (Lit.int .i64 y).wf = true) ∧ (∀ y ∈ i.vl, (Lit.int .i64 y).wf = true) ∧ ∀ r ∈ i.cost, ∀ y ∈ r, (Lit.int .i64 y).wf = true
theorem open_ins {r : Reach} {b0 : Nat} {t tI tS tR : TypeId} {fs : Array Field} {v : Value} {d : DataW H} {p : List MemPlace} {held : Bool} (ht : P.underlying t = some (.struct fs)) (hcells : P.cellsOf t = 6) (hI : P.underlying tI = some (.int .i64)) (hcI : P.cellsOf tI = 1) (hS : P.underlying tS = some (.slice tI)) (hcS : P.cellsOf tS = 1) (hR : P.underlying tR = some (.slice tS)) (hcR : P.cellsOf tR = 1)
  (hf : ∃ f0 f1 f2 f3 f4 f5 : Field, fs = #[f0, f1, f2, f3, f4, f5] ∧ (f0.type = tI ∧ f1.type = tI ∧ f2.type = tI ∧ f3.type = tS ∧ f4.type = tS ∧ f5.type = tR) ∧ f0.offset = 0 ∧ f1.offset = 1 ∧ f2.offset = 2 ∧ f3.offset = 3 ∧ f4.offset = 4 ∧ f5.offset = 5)
  (hv : Value.okWide P w r b0 t v) (h : DataW.Trod enc P w 0 (fun _ => true) held t v d p) : ∃ i : Ins, InsV w v i ∧ wfI i := by
 simp only [Value.okWide, ht] at hv
 obtain ⟨cs, rfl, hsz, -⟩ := hv
 obtain ⟨fuel, hfu⟩ := h
 obtain ⟨f0, f1, f2, f3, f4, f5, rfl, ⟨t0, t1, t2, t3, t4, t5⟩, o0, o1, o2, o3, o4, o5⟩ := hf
 obtain ⟨xs, k, -, -, hlen, hxl, hfd⟩ := DataW.trod_struct ht hfu
 rw [hcells] at hlen hsz
 obtain ⟨c0, c1, c2, c3, c4, c5, rfl⟩ : ∃ c0 c1 c2 c3 c4 c5, cs = #[c0, c1, c2, c3, c4, c5] := by
  match cs, hsz with
  | ⟨[c0, c1, c2, c3, c4, c5]⟩, _ => exact ⟨c0, c1, c2, c3, c4, c5, rfl⟩
 have hx : ∀ j, j < 6 → ∃ y, xs[j]? = some y := fun j hj => ⟨xs[j]'(by rw [hxl]; exact hj), List.getElem?_eq_getElem _⟩
 have g : ∀ (j : Nat) (f : Field) (tt : TypeId) (c : Value), (#[f0, f1, f2, f3, f4, f5] : Array Field)[j]? = some f → j < 6 → f.type = tt → f.offset = j → P.cellsOf tt = 1 → (([c0, c1, c2, c3, c4, c5] : List Value).drop j).take 1 = [c] → ∃ y, DataW.trod enc P w 0 (fun _ => true) held k tt [c] = some y := by
  intro j f tt c h1 hj h2 h3 h4 h5
  have := hfd j f h1
  rw [h2, h3, h4] at this
  obtain ⟨y, hy⟩ := hx j hj
  refine ⟨y, ?_⟩
  rw [← hy, ← this, ← h5]
  rfl
 obtain ⟨y0, g0⟩ := g 0 f0 tI c0 rfl (by omega) t0 o0 hcI rfl
 obtain ⟨y1, g1⟩ := g 1 f1 tI c1 rfl (by omega) t1 o1 hcI rfl
 obtain ⟨y2, g2⟩ := g 2 f2 tI c2 rfl (by omega) t2 o2 hcI rfl
 obtain ⟨y3, g3⟩ := g 3 f3 tS c3 rfl (by omega) t3 o3 hcS rfl
 obtain ⟨y4, g4⟩ := g 4 f4 tS c4 rfl (by omega) t4 o4 hcS rfl
 obtain ⟨y5, g5⟩ := g 5 f5 tR c5 rfl (by omega) t5 o5 hcR rfl
 obtain ⟨n0, e0, -, w0⟩ := DataW.trod_int hI g0
 obtain ⟨n1, e1, -, w1⟩ := DataW.trod_int hI g1
 obtain ⟨n2, e2, -, w2⟩ := DataW.trod_int hI g2
 obtain ⟨u3, l3, e3, s3, w3⟩ := trod_ints hS hI hcI g3
 obtain ⟨u4, l4, e4, s4, w4⟩ := trod_ints hS hI hcI g4
 obtain ⟨u5, R, e5, s5, w5⟩ := trod_rows hR hS hcS hI hcI g5
 cases e0
 cases e1
 cases e2
 cases e3
 cases e4
 cases e5
 exact ⟨⟨n0, n1, n2, l3, l4, R⟩, ⟨_, _, _, rfl, s3, s4, s5⟩, w0, w1, w2, w3, w4, w5⟩
end
end Go.Proofs.Ytnikajkklocncaa
namespace Go.Proofs.Ytnikajkklocncaa
open Go.RowKit
theorem same09_u (ax : Option Addr) (X : List Int) (cx : Nat) (ay : Option Addr) (cy : Nat) (hX : X.length ≤ 9223372036854775807) (w : World) (hx : IntSl w (.slice ax X.length cx) X) (hy : IntSl w (.slice ay X.length cy) X) : Calls Try.prog 27 #[.slice ax X.length cx, .slice ay X.length cy] w fun e w' => e = .returned (.bool true) ∧ Below w.heap.size w w' := by
  have h := same09 ax X cx ay X cy hX w hx hy
  exact h.mono fun e w' ⟨h1, h2⟩ => ⟨by rw [h1]; simp, h2⟩
def iG : Ins := ⟨1, 2, 10, [6, 10], [7, 9], []⟩
theorem chk_g : chk iG = 0 := by
  have hs : shapeOK iG := .inl ⟨rfl, by decide, by decide, rfl⟩
  unfold chk
  rw [if_neg (not_not_intro (show sizeE iG = 0 by decide)), if_pos hs]
  first | rfl | decide
theorem fr_g : frI iG = [0, 1] := by
  rw [frI_kn chk_g rfl]
  decide +kernel
def smlP (i : Ins) : Prop := chk i = 0 ∧ (i.kind = 1 ∧ i.n ≤ 9 ∨ i.n ≤ 6)
theorem first_g (av3 : Option Addr) (cv3 : Nat) (av4 : Option Addr) (cv4 : Nat) (av5 : Option Addr) (cv5 : Nat) (w : World) (hv3 : IntSl w (.slice av3 iG.wt.length cv3) iG.wt) (hv4 : IntSl w (.slice av4 iG.vl.length cv4) iG.vl) (hv5 : RowsV w (.slice av5 iG.cost.length cv5) iG.cost) : Calls Try.prog 24 #[.agg #[.int .i64 iG.kind, .int .i64 iG.n, .int .i64 iG.cap, .slice av3 iG.wt.length cv3, .slice av4 iG.vl.length cv4, .slice av5 iG.cost.length cv5]] w (fun e w' => ∃ a c, e = .returned (.tuple #[.slice a (([0, 1] : List Int)).length c, .int .i64 0]) ∧ IntSl w' (.slice a (([0, 1] : List Int)).length c) (([0, 1] : List Int)) ∧ Below w.heap.size w w') := by
  have h := first10 iG av3 cv3 av4 cv4 av5 cv5 ⟨by decide, by decide⟩ w hv3 hv4 hv5
  rwa [fr_g, chk_g] at h
set_option maxRecDepth 100000 in
set_option maxHeartbeats 400000 in
theorem finds_any  (w : World) :
  Calls Try.prog 26 #[] w fun e w' => e = .returned (.bool true) ∧ Below w.heap.size w w' := by
 have hbs := Below.refl (B := w.heap.size) w
 have hM := Mem.start w
 refine Calls.of_ends (vs := []) Try.func26 rfl Try.ntmps26 rfl ?_
 intro a hA
 replace hA : St 29 [] a := hA
 refine Ends.seq (Ends.region ?_)
 refine S.val hA (R.assign rfl) rfl ?_; clear hA a; intro a hA
 refine S.done ?_
 refine Ends.seq (Ends.region ?_)
 refine S.buildSl (cells := #[.int .i64 6, .int .i64 10]) hA hM Try.underlying22 info3 rfl rfl rfl rfl (by kernel_rfl) rfl ?_; clear hA hM a; intro b1 w1 hb2 hM a hA
 replace hM : Mem _ _ [pt b1 #[.int .i64 6, .int .i64 10] 3] _ := hM
 refine S.buildSl (cells := #[.int .i64 7, .int .i64 9]) hA hM Try.underlying22 info3 rfl rfl rfl rfl (by kernel_rfl) rfl ?_; clear hA hM a; intro b3 w2 hb4 hM a hA
 replace hM : Mem _ _ [pt b3 #[.int .i64 7, .int .i64 9] 3, pt b1 #[.int .i64 6, .int .i64 10] 3] _ := hM
 refine S.val hA (R.build (cells := #[.int .i64 1, .int .i64 2, .int .i64 10, .slice (some ⟨b1, 0, none⟩) 2 2, .slice (some ⟨b3, 0, none⟩) 2 2, .slice none 0 0]) rfl (by kernel_rfl)) rfl ?_; clear hA a; intro a hA
 have hv3 := hM.ptRs (k := 1) (X := ([6, 10] : List Int)) rfl (by decide)
 have hv4 := hM.ptRs (k := 0) (X := ([7, 9] : List Int)) rfl (by decide)
 have hv5 := RowsV.nil w2
 replace hA : St 29 [(6, _)] a := hA.sub ((.cons rfl .nil))
 replace hM := hM.nilL
 have hbs := hbs.trans (hM.below.mono hbs.size)
 replace hM := Mem.start w2
 refine S.call hA (R.callF Try.func24 rfl rfl rfl) rfl (first_g ((some ⟨b1, 0, none⟩)) 2 ((some ⟨b3, 0, none⟩)) 2 none 0 _ (hv3.mem hM) (hv4.mem hM) (hv5.mem hM)) ?_; clear hA a
 rintro e w3 ⟨ra5, rc6, rfl, rh7, hb⟩
 replace hM := hM.callB hb; clear hb
 have hbs := hbs.trans (hM.below.mono hbs.size)
 have hv3 := hv3.mem hM
 have hv4 := hv4.mem hM
 have hv5 := hv5.mem hM
 replace hM := Mem.start w3
 refine ⟨.tuple #[.slice ra5 ((([0, 1] : List Int)).length) rc6, .int .i64 0], rfl, fun a hA => ?_⟩
 refine S.val hA (R.move rfl) rfl ?_; clear hA a; intro a hA
 refine S.val hA (R.extract (v := .slice ra5 ((([0, 1] : List Int)).length) rc6) rfl rfl) rfl ?_; clear hA a; intro a hA
 refine S.val hA (R.extract (v := .int .i64 0) rfl rfl) rfl ?_; clear hA a; intro a hA
 refine S.val hA (R.assign rfl) rfl ?_; clear hA a; intro a hA
 refine S.val hA (R.assign rfl) rfl ?_; clear hA a; intro a hA
 refine S.done ?_
 refine Ends.seq (Ends.region ?_)
 refine S.val hA (R.move rfl) rfl ?_; clear hA a; intro a hA
 refine S.val hA (R.tt (R.eql rfl rfl) (by first | decide | simp | omega)) rfl ?_; clear hA a; intro a hA
 refine S.val hA (R.move rfl) rfl ?_; clear hA a; intro a hA
 refine S.valg (dj := 12) hA (by kernel_rfl) rfl (R.move rfl) rfl ?_; clear hA a; intro a hA
 refine S.valg (dj := 12) hA (by kernel_rfl) rfl (R.lenS Try.underlying22 rfl rfl) rfl ?_; clear hA a; intro a hA
 refine S.valg (dj := 12) hA (by kernel_rfl) rfl (R.tt (R.eql rfl rfl) (by rfl)) rfl ?_; clear hA a; intro a hA
 refine S.val hA (R.pickT rfl rfl) rfl ?_; clear hA a; intro a hA
 refine S.val hA (R.move rfl) rfl ?_; clear hA a; intro a hA
 refine S.valg (dj := 17) hA (by kernel_rfl) rfl (R.move rfl) rfl ?_; clear hA a; intro a hA
 refine S.valg (dj := 17) hA (by kernel_rfl) rfl (R.idxI rh7 (j := 0) sl22 rfl rfl (by first | omega | decide) (rfl)) rfl ?_; clear hA a; intro a hA
 refine S.valg (dj := 17) hA (by kernel_rfl) rfl (R.loadI (rh7.mem hM) sz3 rfl (by first | omega | decide)) rfl ?_; clear hA a; intro a hA
 refine S.valg (dj := 17) hA (by kernel_rfl) rfl (R.tt (R.eql rfl rfl) (by rfl)) rfl ?_; clear hA a; intro a hA
 refine S.val hA (R.pickT rfl rfl) rfl ?_; clear hA a; intro a hA
 refine S.val hA (R.move rfl) rfl ?_; clear hA a; intro a hA
 refine S.valg (dj := 23) hA (by kernel_rfl) rfl (R.move rfl) rfl ?_; clear hA a; intro a hA
 refine S.valg (dj := 23) hA (by kernel_rfl) rfl (R.idxI rh7 (j := 1) sl22 rfl rfl (by first | omega | decide) (rfl)) rfl ?_; clear hA a; intro a hA
 refine S.valg (dj := 23) hA (by kernel_rfl) rfl (R.loadI (rh7.mem hM) sz3 rfl (by first | omega | decide)) rfl ?_; clear hA a; intro a hA
 refine S.valg (dj := 23) hA (by kernel_rfl) rfl (R.tt (R.eql rfl rfl) (by rfl)) rfl ?_; clear hA a; intro a hA
 refine S.val hA (R.pickT rfl rfl) rfl ?_; clear hA a; intro a hA
 refine S.val hA (R.assign rfl) rfl ?_; clear hA a; intro a hA
 refine S.done ?_
 refine Ends.ret1 Try.func26 Try.results26 hA rfl ?_
 exact ⟨rfl, Mem.trans0 hbs hM.nilL⟩
set_option maxRecDepth 100000 in
set_option maxHeartbeats 400000 in
theorem greedyFirsts_w (i : Ins) (ax3 : Option Addr) (cx3 : Nat) (ax4 : Option Addr) (cx4 : Nat) (ax5 : Option Addr) (cx5 : Nat) (w : World) (hx3 : IntSl w (.slice ax3 i.wt.length cx3) i.wt) (hx4 : IntSl w (.slice ax4 i.vl.length cx4) i.vl) (hx5 : RowsV w (.slice ax5 i.cost.length cx5) i.cost) :
  Calls Try.prog 7 #[.agg #[.int .i64 i.kind, .int .i64 i.n, .int .i64 i.cap, .slice ax3 i.wt.length cx3, .slice ax4 i.vl.length cx4, .slice ax5 i.cost.length cx5]] w fun e w' => e = .returned (.bool true) ∧ Below w.heap.size w w' := by
 have hbs := Below.refl (B := w.heap.size) w
 have hM := Mem.start w
 refine Calls.of_ends (vs := [.agg #[.int .i64 i.kind, .int .i64 i.n, .int .i64 i.cap, .slice ax3 i.wt.length cx3, .slice ax4 i.vl.length cx4, .slice ax5 i.cost.length cx5]]) Try.func7 rfl Try.ntmps7 rfl ?_
 intro a hA
 replace hA : St 46 [(0, _)] a := hA
 refine Ends.seq (Ends.region ?_)
 refine S.box hA hM rfl rfl ?_; clear hA hM a; intro b1 w1 hb2 hM a hA
 replace hM : Mem _ _ [pt b1 #[.int .i64 i.kind, .int .i64 i.n, .int .i64 i.cap, .slice ax3 i.wt.length cx3, .slice ax4 i.vl.length cx4, .slice ax5 i.cost.length cx5] 25] _ := hM
 refine S.val hA (R.assign rfl) rfl ?_; clear hA a; intro a hA
 refine S.done ?_
 refine Ends.seq (Ends.region ?_)
 refine S.val hA (R.loadA sz25 rfl (hM.range (k := 0) rfl) rfl) rfl ?_; clear hA a; intro a hA
 obtain ⟨G, hGy⟩ : ∃ G, G = cutI i := ⟨_, rfl⟩
 have hsmy : smallI G := by rw [hGy]; exact cutI_small _
 have hscy := cutI_of_small hsmy
 have hsy1 := hsmy.1
 have hsy2 := hsmy.2.1
 have hsy3 := hsmy.2.2.1
 refine S.call hA (R.callF Try.func13 rfl rfl rfl) rfl (copyG i ax3 cx3 ax4 cx4 ax5 cx5 G hGy _ (hx3.mem hM) (hx4.mem hM) (hx5.mem hM)) ?_; clear hA a
 rintro e w2 ⟨ay3, cy3, ay4, cy4, ay5, cy5, rsy, rfl, hYy, hn⟩
 replace hM : Mem _ _ [bundle (insL 3 22 G ay3 cy3 ay4 cy4 ay5 cy5 rsy), pt b1 #[.int .i64 i.kind, .int .i64 i.n, .int .i64 i.cap, .slice ax3 i.wt.length cx3, .slice ax4 i.vl.length cx4, .slice ax5 i.cost.length cx5] 25] _ := hM.call hn; clear hn
 refine ⟨.agg #[.int .i64 G.kind, .int .i64 G.n, .int .i64 G.cap, .slice ay3 G.wt.length cy3, .slice ay4 G.vl.length cy4, .slice ay5 rsy.length cy5], rfl, fun a hA => ?_⟩
 refine S.storeA (k := 1) hA hM sz25 rfl rfl rfl rfl rfl rfl ?_; clear hM
 intro w3 hM
 replace hM : Mem _ _ [bundle (insL 3 22 G ay3 cy3 ay4 cy4 ay5 cy5 rsy), pt b1 #[.int .i64 G.kind, .int .i64 G.n, .int .i64 G.cap, .slice ay3 G.wt.length cy3, .slice ay4 G.vl.length cy4, .slice ay5 rsy.length cy5] 25] _ := hM
 refine S.done ?_
 replace hA : St 46 [(1, _)] a := hA.sub ((.cons rfl .nil))
 refine Ends.seq ?_
 obtain ⟨-, hy3, hy4, hy5⟩ := insR_of hM (k := 0) rfl hYy
 have hlcy : rsy.length = G.cost.length := by rw [← hYy, List.length_map]
 replace hM := hM.drop 0
 rw [hlcy] at hM
 replace hM : Mem _ _ [pt b1 #[.int .i64 G.kind, .int .i64 G.n, .int .i64 G.cap, .slice ay3 G.wt.length cy3, .slice ay4 G.vl.length cy4, .slice ay5 G.cost.length cy5] 25] _ := hM
 have hbx3 := hM.block (k := 0) rfl
 have hbs := hbs.trans (hM.below.mono hbs.size)
 have hx3 := hx3.mem hM
 have hx4 := hx4.mem hM
 have hx5 := hx5.mem hM
 replace hM := Mem.start w3
 refine Ends.region ?_
 refine S.val hA (R.loadA sz25 rfl (hM.oldRange hbx3) rfl) rfl ?_; clear hA a; intro a hA
 refine S.call hA (R.callF Try.func24 rfl rfl rfl) rfl (first10 G ay3 cy3 ay4 cy4 ay5 cy5 ⟨by omega, by omega⟩ _ (hy3.mem hM) (hy4.mem hM) (hy5.mem hM)) ?_; clear hA a
 rintro e w4 ⟨ra4, rc5, rfl, rh6, hb⟩
 replace hM := hM.callB hb; clear hb
 have hbs := hbs.trans (hM.below.mono hbs.size)
 have hx3 := hx3.mem hM
 have hx4 := hx4.mem hM
 have hx5 := hx5.mem hM
 have hy3 := hy3.mem hM
 have hy4 := hy4.mem hM
 have hy5 := hy5.mem hM
 have hbx3 := hM.keepB hbx3
 replace hM := Mem.start w4
 refine ⟨.tuple #[.slice ra4 (((frI G)).length) rc5, .int .i64 (chk G)], rfl, fun a hA => ?_⟩
 refine S.val hA (R.move rfl) rfl ?_; clear hA a; intro a hA
 refine S.val hA (R.extract (v := .slice ra4 (((frI G)).length) rc5) rfl rfl) rfl ?_; clear hA a; intro a hA
 refine S.val hA (R.extract (v := .int .i64 (chk G)) rfl rfl) rfl ?_; clear hA a; intro a hA
 refine S.val hA (R.assign rfl) rfl ?_; clear hA a; intro a hA
 refine S.val hA (R.assign rfl) rfl ?_; clear hA a; intro a hA
 refine S.done ?_
 replace hA : St 46 [(1, _), (3, _), (4, _)] a := hA.sub ((.cons rfl (.cons rfl (.cons rfl .nil))))
 refine Ends.seq (Ends.region ?_)
 refine S.val hA (R.loadA sz25 rfl (hM.oldRange hbx3) rfl) rfl ?_; clear hA a; intro a hA
 refine S.call hA (R.callF Try.func25 rfl rfl rfl) rfl (rfirst10 G ay3 cy3 ay4 cy4 ay5 cy5 _ (hy3.mem hM) (hy4.mem hM) (hy5.mem hM)) ?_; clear hA a
 rintro e w5 ⟨ra7, rc8, rfl, rh9, hb⟩
 replace hM := hM.callB hb; clear hb
 have hbs := hbs.trans (hM.below.mono hbs.size)
 have hx3 := hx3.mem hM
 have hx4 := hx4.mem hM
 have hx5 := hx5.mem hM
 have hy3 := hy3.mem hM
 have hy4 := hy4.mem hM
 have hy5 := hy5.mem hM
 have rh6 := rh6.mem hM
 have hbx3 := hM.keepB hbx3
 replace hM := Mem.start w5
 refine ⟨.tuple #[.slice ra7 (((frI G)).length) rc8, .int .i64 (chk G)], rfl, fun a hA => ?_⟩
 refine S.val hA (R.move rfl) rfl ?_; clear hA a; intro a hA
 refine S.val hA (R.extract (v := .slice ra7 (((frI G)).length) rc8) rfl rfl) rfl ?_; clear hA a; intro a hA
 refine S.val hA (R.extract (v := .int .i64 (chk G)) rfl rfl) rfl ?_; clear hA a; intro a hA
 refine S.val hA (R.assign rfl) rfl ?_; clear hA a; intro a hA
 refine S.val hA (R.assign rfl) rfl ?_; clear hA a; intro a hA
 refine S.done ?_
 replace hA : St 46 [(1, _), (3, _), (4, _), (5, _), (6, _)] a := hA.sub ((.cons rfl (.cons rfl (.cons rfl (.cons rfl (.cons rfl .nil))))))
 refine Ends.seq (Ends.seq (Ends.region ?_))
 refine S.call hA (R.callF Try.func26 rfl rfl rfl) rfl (finds_any _) ?_; clear hA a
 rintro e w6 ⟨rfl, hb⟩
 replace hM := hM.callB hb; clear hb
 refine ⟨.bool true, rfl, fun a hA => ?_⟩
 refine S.val hA (R.not rfl) rfl ?_; clear hA a; intro a hA
 refine S.val hA (R.move rfl) rfl ?_; clear hA a; intro a hA
 refine S.valg (dj := 23) hA (by kernel_rfl) rfl (R.move rfl) rfl ?_; clear hA a; intro a hA
 refine S.valg (dj := 23) hA (by kernel_rfl) rfl (R.move rfl) rfl ?_; clear hA a; intro a hA
 refine S.callg (dj := 23) hA (by kernel_rfl) rfl (R.callF Try.func27 rfl rfl rfl) rfl (same09_u ra4 ((frI G)) rc5 ra7 rc8 (rh6.mem hM).lenB _ (rh6.mem hM) (rh9.mem hM)) ?_; clear hA a
 rintro e w7 ⟨rfl, hb⟩
 replace hM := hM.callB hb; clear hb
 refine ⟨.bool true, rfl, fun a hA => ?_⟩
 refine S.valg (dj := 23) hA (by kernel_rfl) rfl (R.not rfl) rfl ?_; clear hA a; intro a hA
 refine S.val hA (R.pickF rfl rfl) rfl ?_; clear hA a; intro a hA
 refine S.val hA (R.move rfl) rfl ?_; clear hA a; intro a hA
 refine S.valg (dj := 29) hA (by kernel_rfl) rfl (R.move rfl) rfl ?_; clear hA a; intro a hA
 refine S.valg (dj := 29) hA (by kernel_rfl) rfl (R.move rfl) rfl ?_; clear hA a; intro a hA
 refine S.valg (dj := 29) hA (by kernel_rfl) rfl (R.ff (R.neq rfl rfl) (by first | decide | simp | omega)) rfl ?_; clear hA a; intro a hA
 refine S.val hA (R.pickF rfl rfl) rfl ?_; clear hA a; intro a hA
 refine S.done ?_
 replace hA : St 46 [(1, _), (3, _), (4, _), (33, _)] a := hA.sub ((.cons rfl (.cons rfl (.cons rfl (.cons rfl .nil)))))
 refine Ends.condF hA rfl ?_
 refine Ends.skip (Ends.seq (Ends.region ?_))
 refine S.val hA (R.loadA sz25 rfl (hM.oldRange hbx3) rfl) rfl ?_; clear hA a; intro a hA
 refine S.val hA (R.move rfl) rfl ?_; clear hA a; intro a hA
 refine S.call hA (R.callF Try.func20 rfl rfl rfl) rfl (rcost08 G ay3 cy3 ay4 cy4 ay5 cy5 ra4 ((frI G)) rc5 _ (hy3.mem hM) (hy4.mem hM) (hy5.mem hM) (rh6.mem hM)) ?_; clear hA a
 rintro e w8 ⟨rfl, hb⟩
 replace hM := hM.callB hb; clear hb
 refine ⟨.tuple #[.int .i64 ((costI G ((frI G))).1), .int .i64 ((costI G ((frI G))).2)], rfl, fun a hA => ?_⟩
 refine S.val hA (R.move rfl) rfl ?_; clear hA a; intro a hA
 refine S.val hA (R.extract (v := .int .i64 ((costI G ((frI G))).1)) rfl rfl) rfl ?_; clear hA a; intro a hA
 refine S.val hA (R.extract (v := .int .i64 ((costI G ((frI G))).2)) rfl rfl) rfl ?_; clear hA a; intro a hA
 refine S.val hA (R.assign rfl) rfl ?_; clear hA a; intro a hA
 refine S.val hA (R.assign rfl) rfl ?_; clear hA a; intro a hA
 refine S.done ?_
 replace hA : St 46 [(4, _), (8, _)] a := hA.sub ((.cons rfl (.cons rfl .nil)))
 refine Ends.seq ?_
 refine Ends.cut (fun (a : Act) (wv : World) => St 46 [(2, .bool (decide (((chk G) ≠ 0 ∨ ((costI G ((frI G))).2) = 0))))] a ∧ Mem w5 nof [] wv) ?_ (fun k2 hJ => ?_)
 ·
  clear hA hM a; rintro a w9 ⟨hA, hM⟩
  refine Ends.ret1 Try.func7 Try.results7 hA rfl ?_
  have hfin : ((chk G) ≠ 0 ∨ ((costI G ((frI G))).2) = 0) := by by_cases hz : chk G = 0; exact .inr (frI_cost hz); exact .inl hz
  exact ⟨congrArg (fun b => Ending.returned (.bool b)) (decide_eq_true hfin), Mem.trans0 hbs hM.nilL⟩
 ·
  refine Ends.region ?_
  refine S.val hA (R.move rfl) rfl ?_; clear hA a; intro a hA
  refine S.val hA (R.neq rfl rfl) rfl ?_; clear hA a; intro a hA
  refine S.val hA (R.move rfl) rfl ?_; clear hA a; intro a hA
  refine hA.split (d := 42) rfl ?_ ?_
  ·
   clear hA; intro hg10 hA
   refine S.no (dj := 42) hA (by kernel_rfl) rfl rfl rfl ?_; clear hA a; intro a hA
   refine S.no (dj := 42) hA (by kernel_rfl) rfl rfl rfl ?_; clear hA a; intro a hA
   refine S.val hA (R.pickT rfl rfl) rfl ?_; clear hA a; intro a hA
   refine S.val hA (R.assign rfl) rfl ?_; clear hA a; intro a hA
   refine S.done ?_
   replace hA : St 46 [(2, _)] a := hA.sub ((.cons rfl .nil))
   exact hJ _ _ ⟨hA.sub (.cons (by first | rfl | exact congrArg (fun b => some (Value.bool b)) (by first | exact decide_eq_decide.2 (by omega) | exact or_bool (by omega) | exact and_bool (by omega) | (simp; done) | (simp [hg10]; done) | (have h80 := hg10; (try simp at h80); simp [h80]; done) | exact (decide_eq_false (fun h9 => hg10 h9.1)).symm)) .nil), hM⟩
  ·
   clear hA; intro hg10 hA
   refine S.valg (dj := 42) hA (by kernel_rfl) rfl (R.move rfl) rfl ?_; clear hA a; intro a hA
   refine S.valg (dj := 42) hA (by kernel_rfl) rfl (R.eql rfl rfl) rfl ?_; clear hA a; intro a hA
   refine S.val hA (R.pickF rfl rfl) rfl ?_; clear hA a; intro a hA
   refine S.val hA (R.assign rfl) rfl ?_; clear hA a; intro a hA
   refine S.done ?_
   replace hA : St 46 [(2, _)] a := hA.sub ((.cons rfl .nil))
   exact hJ _ _ ⟨hA.sub (.cons (by first | rfl | exact congrArg (fun b => some (Value.bool b)) (by first | exact decide_eq_decide.2 (by omega) | exact or_bool (by omega) | exact and_bool (by omega) | (simp; done) | (simp [hg10]; done) | (have h80 := hg10; (try simp at h80); simp [h80]; done) | exact (decide_eq_false (fun h9 => hg10 h9.1)).symm)) .nil), hM⟩
theorem greedyFirsts_any (v : Value) (i : Ins) (w : World) (h1 : InsV w v i) (_h2 : wfI i) :
    Calls Try.prog 7 #[v] w fun e w' => e = .returned (.bool true) ∧ Below w.heap.size w w' := by
  obtain ⟨aw, cw, av, cv, ac, cc, rfl, h3, h4, h5⟩ := h1.parts
  exact greedyFirsts_w i aw cw av cv ac cc w h3 h4 h5
instance (i : Ins) : Decidable (smlP i) := by unfold smlP; infer_instance
end Go.Proofs.Ytnikajkklocncaa
