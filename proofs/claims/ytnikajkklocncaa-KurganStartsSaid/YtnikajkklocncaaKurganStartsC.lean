/-
  KurganStarts, part 3 of 3: what the code computes, and plain laws; no condition beside those that each theorem tells.
-/
import Derived.Test.YtnikajkklocncaaKurganStartsB
import Derived.OpenShut
import Derived.ProofKit
import Derived.Deep.Slices
import Derived.SizedLaws
namespace Go.Proofs.Ytnikajkklocncaa
open Go.RowKit
theorem bdI_nn {X : List Int} (h : ∀ z, 0 ≤ X.getD z 0 ∧ X.getD z 0 ≤ 2147483647) : bdI X := fun z => ⟨by have := h z; omega, by have := h z; omega⟩
theorem noNeg {X : List Int} (h : ∀ z, 0 ≤ X.getD z 0 ∧ X.getD z 0 ≤ 2147483647) : hasNeg X = false := hasNeg_no (fun j _ => (h j).1)
theorem knp_good {i : Ins} (hF : InF i) (hk : i.kind = 1) : ¬ badQ i.vl i.wt := fun h => by
  have h1 := hF.wt
  have h2 := hF.vl
  have h3 := hF.n64
  rw [if_pos hk] at h1 h2
  rcases h with ((g | g) | g) | g
  · omega
  · omega
  · rw [noNeg hF.vlr] at g; cases g
  · rw [noNeg hF.wtr] at g; cases g
def frI (i : Ins) : List Int := if chk i ≠ 0 then [] else if i.kind = 1 then knS i else rwA i (i.n.toNat - frm i)
theorem frI_no {i : Ins} (h : ¬ chk i = 0) : frI i = [] := if_pos h
theorem frI_kn {i : Ins} (h : chk i = 0) (hk : i.kind = 1) : frI i = knS i := by unfold frI; rw [if_neg (not_not_intro h), if_pos hk]
theorem frI_rw {i : Ins} (h : chk i = 0) (hk : ¬ i.kind = 1) : frI i = rwA i (i.n.toNat - frm i) := by unfold frI; rw [if_neg (not_not_intro h), if_neg hk]
theorem frI_cost {i : Ins} (h : chk i = 0) : (costI i (frI i)).2 = 0 := by
  have hF := chk_inF h
  by_cases hk : i.kind = 1
  · rw [frI_kn h hk, costI_kn h hk]; exact knS_ok hF hk
  · rw [frI_rw h hk, costI_or h hk, if_neg (not_not_intro (rwA_ord hF))]
def usOK (x : List Int) (n : Nat) (U : List Bool) : Prop := U.length = n ∧ ∀ c, c < n → U.getD c false = decide ((c : Int) ∈ x)
theorem us_nil (n : Nat) : usOK [] n (List.replicate n false) := ⟨List.length_replicate, fun c hc => by rw [List.getD_eq_getElem?_getD, List.getElem?_replicate, if_pos hc]; simp⟩
theorem us_add {x : List Int} {n q : Nat} {U : List Bool} (h : usOK x n U) (hq : q < n) : usOK (x ++ [(q : Int)]) n (U.set q true) := by
  refine ⟨by rw [List.length_set]; exact h.1, fun c hc => ?_⟩
  rw [List.getD_eq_getElem?_getD, List.getElem?_set]
  by_cases e : q = c
  · subst e; rw [if_pos rfl, if_pos (by rw [h.1]; exact hc)]; simp
  · rw [if_neg e, ← List.getD_eq_getElem?_getD, h.2 c hc]
    refine decide_eq_decide.2 ⟨fun g => List.mem_append_left _ g, fun g => ?_⟩
    rcases List.mem_append.1 g with g | g
    · exact g
    · have := List.mem_singleton.1 g; omega
theorem us_zero {n : Nat} (hn : 1 ≤ n) : usOK [0] n ((List.replicate n false).set 0 true) := us_add (us_nil n) hn
theorem rowLn {i : Ins} (hF : InF i) (hk : i.kind ≠ 1) {r : Nat} (h : r < i.n.toNat) : (i.cost.getD r []).length = i.n.toNat := by
  have hc := hF.cost
  rw [if_neg hk] at hc
  exact hF.row r (by omega)
theorem ratioK (i : Ins) (ax3 : Option Addr) (cx3 : Nat) (ax4 : Option Addr) (cx4 : Nat) (ax5 : Option Addr) (cx5 : Nat) (l : List Int) (hl : byQ i.vl i.wt = l) (hF : InF i) (hk1 : i.kind = 1) (w : World) (h4 : IntSl w (.slice ax4 i.vl.length cx4) i.vl) (h3 : IntSl w (.slice ax3 i.wt.length cx3) i.wt) :
    Calls Try.prog 71 #[.slice ax4 i.vl.length cx4, .slice ax3 i.wt.length cx3] w fun e w' => ∃ a c, e = .returned (.tuple #[.slice a l.length c, .int .i64 0]) ∧ IntSl w' (.slice a l.length c) l ∧ frs w.heap.size a ∧ Below w.heap.size w w' := by
  have h := byratioF ax4 i.vl cx4 ax3 i.wt cx3 (bdI_nn hF.vlr) (bdI_nn hF.wtr) w h4 h3
  have hb := knp_good hF hk1
  rw [show qL i.vl i.wt = byQ i.vl i.wt from if_neg hb, show qE i.vl i.wt = 0 from if_neg hb, hl] at h
  exact h
set_option maxRecDepth 100000 in
set_option maxHeartbeats 400000 in
theorem fill10 (i : Ins) (ax3 : Option Addr) (cx3 : Nat) (ax4 : Option Addr) (cx4 : Nat) (ax5 : Option Addr) (cx5 : Nat) (hF : InF i) (hk1 : i.kind = 1) (w : World) (hx3 : IntSl w (.slice ax3 i.wt.length cx3) i.wt) (hx4 : IntSl w (.slice ax4 i.vl.length cx4) i.vl) (hx5 : RowsV w (.slice ax5 i.cost.length cx5) i.cost) :
  Calls Try.prog 62 #[.agg #[.int .i64 i.kind, .int .i64 i.n, .int .i64 i.cap, .slice ax3 i.wt.length cx3, .slice ax4 i.vl.length cx4, .slice ax5 i.cost.length cx5]] w fun e w' => ∃ a c, e = .returned (.tuple #[.slice a ((flS i (byQ i.vl i.wt) i.n.toNat).1).length c, .int .i64 ((flS i (byQ i.vl i.wt) i.n.toNat).2.2)]) ∧ IntSl w' (.slice a ((flS i (byQ i.vl i.wt) i.n.toNat).1).length c) ((flS i (byQ i.vl i.wt) i.n.toNat).1) ∧ Below w.heap.size w w' := by
 have hbs := Below.refl (B := w.heap.size) w
 have f1 := hF.n1
 have f3 := hF.n64
 have f5 := hF.wt
 have f6 := hF.vl
 have f8 := hF.cap
 rw [if_pos hk1] at f5 f6
 have hwr := hF.wtr
 have hvr := hF.vlr
 have hal := alI_bd i
 have hrp : (List.replicate i.n.toNat (0 : Int)).length = i.n.toNat := List.length_replicate
 have hM := Mem.start w
 refine Calls.of_ends (vs := [.agg #[.int .i64 i.kind, .int .i64 i.n, .int .i64 i.cap, .slice ax3 i.wt.length cx3, .slice ax4 i.vl.length cx4, .slice ax5 i.cost.length cx5]]) Try.func62 rfl Try.ntmps62 rfl ?_
 intro a hA
 replace hA : St 57 [(0, _)] a := hA
 refine Ends.seq (Ends.region ?_)
 refine S.box hA hM rfl rfl ?_; clear hA hM a; intro b1 w1 hb2 hM a hA
 replace hM : Mem _ _ [pt b1 #[.int .i64 i.kind, .int .i64 i.n, .int .i64 i.cap, .slice ax3 i.wt.length cx3, .slice ax4 i.vl.length cx4, .slice ax5 i.cost.length cx5] 25] _ := hM
 refine S.val hA (R.assign rfl) rfl ?_; clear hA a; intro a hA
 refine S.val hA (R.assign rfl) rfl ?_; clear hA a; intro a hA
 refine S.done ?_
 refine Ends.seq (Ends.region ?_)
 refine S.val hA (R.fieldAddr (q := 1) fi25_1 rfl rfl rfl) rfl ?_; clear hA a; intro a hA
 refine S.val hA (R.load sz3 rfl (hM.cell (k := 0) rfl rfl)) rfl ?_; clear hA a; intro a hA
 refine S.make hA hM Try.underlying22 info3 rfl rfl rfl (by omega) (by show (8 : Int) * _ ≤ _; omega) (by omega) rfl ?_; clear hA hM a; intro b3 w2 hb4 hM a hA
 replace hM : Mem _ _ [pt b3 (madeCells #[.int .i64 0] (i.n.toNat * 1)) 3, pt b1 #[.int .i64 i.kind, .int .i64 i.n, .int .i64 i.cap, .slice ax3 i.wt.length cx3, .slice ax4 i.vl.length cx4, .slice ax5 i.cost.length cx5] 25] _ := hM
 rw [Nat.mul_one, made_ints] at hM
 replace hM : Mem _ _ [pt b3 ((ints (List.replicate i.n.toNat 0))) 3, pt b1 #[.int .i64 i.kind, .int .i64 i.n, .int .i64 i.cap, .slice ax3 i.wt.length cx3, .slice ax4 i.vl.length cx4, .slice ax5 i.cost.length cx5] 25] _ := hM
 refine S.val hA (R.assign rfl) rfl ?_; clear hA a; intro a hA
 refine S.done ?_
 replace hA : St 57 [(1, _), (4, _)] a := hA.sub ((.cons rfl (.cons rfl .nil)))
 refine Ends.seq (Ends.region ?_)
 refine S.val hA (R.fieldAddr (q := 4) fi25_4 rfl rfl rfl) rfl ?_; clear hA a; intro a hA
 refine S.val hA (R.load sz22 rfl (hM.cell (k := 1) rfl rfl)) rfl ?_; clear hA a; intro a hA
 refine S.val hA (R.fieldAddr (q := 3) fi25_3 rfl rfl rfl) rfl ?_; clear hA a; intro a hA
 refine S.val hA (R.load sz22 rfl (hM.cell (k := 1) rfl rfl)) rfl ?_; clear hA a; intro a hA
 obtain ⟨l, hl⟩ : ∃ l, byQ i.vl i.wt = l := ⟨_, rfl⟩
 have hll : l.length = i.n.toNat := by rw [← hl, byQ_len]; exact f6
 have hlat : ∀ m, m < i.n.toNat → 0 ≤ l.getD m 0 ∧ l.getD m 0 < (i.n.toNat : Int) := fun m hm => by rw [← hl]; have := byQ_at (v := i.vl) (w := i.wt) (m := m) (by omega); omega
 refine S.call hA (R.callF Try.func71 rfl rfl rfl) rfl (ratioK i ax3 cx3 ax4 cx4 ax5 cx5 l hl hF hk1 _ (hx4.mem hM) (hx3.mem hM)) ?_; clear hA a
 rintro e w3 ⟨la, lc, rfl, hli, hlf, hb⟩
 replace hM : Mem _ _ [rd la lc l, pt b3 ((ints (List.replicate i.n.toNat 0))) 3, pt b1 #[.int .i64 i.kind, .int .i64 i.n, .int .i64 i.cap, .slice ax3 i.wt.length cx3, .slice ax4 i.vl.length cx4, .slice ax5 i.cost.length cx5] 25] _ := hM.callRd hb hli hlf; clear hb
 refine ⟨.tuple #[.slice la l.length lc, .int .i64 0], rfl, fun a hA => ?_⟩
 refine S.val hA (R.move rfl) rfl ?_; clear hA a; intro a hA
 refine S.val hA (R.extract (v := .slice la l.length lc) rfl rfl) rfl ?_; clear hA a; intro a hA
 refine S.val hA (R.extract (v := .int .i64 0) rfl rfl) rfl ?_; clear hA a; intro a hA
 refine S.val hA (R.assign rfl) rfl ?_; clear hA a; intro a hA
 refine S.val hA (R.assign rfl) rfl ?_; clear hA a; intro a hA
 refine S.done ?_
 replace hA : St 57 [(1, _), (4, _), (5, _)] a := hA.sub ((.cons rfl (.cons rfl (.cons rfl .nil))))
 refine Ends.seq (Ends.region ?_)
 refine S.val hA (R.fieldAddr (q := 2) fi25_2 rfl rfl rfl) rfl ?_; clear hA a; intro a hA
 refine S.val hA (R.load sz3 rfl (hM.cell (k := 2) rfl rfl)) rfl ?_; clear hA a; intro a hA
 refine S.val hA (R.to (v := .int .i64 ((flS i l 0).2.1)) (R.assign rfl) (rfl)) rfl ?_; clear hA a; intro a hA
 refine S.val hA (R.to (v := .int .i64 ((flS i l 0).2.2)) (R.assign rfl) (rfl)) rfl ?_; clear hA a; intro a hA
 refine S.done ?_
 refine Ends.seq (Ends.seq (Ends.region ?_))
 refine S.val hA (R.move rfl) rfl ?_; clear hA a; intro a hA
 refine S.val hA (R.lenS Try.underlying22 rfl rfl) rfl ?_; clear hA a; intro a hA
 refine S.val hA (R.move rfl) rfl ?_; clear hA a; intro a hA
 refine S.done ?_
 refine Ends.block ?_
 replace hM : Mem _ _ [rd la lc l, pt b3 ((ints (flS i l 0).1)) 3, pt b1 #[.int .i64 i.kind, .int .i64 i.n, .int .i64 i.cap, .slice ax3 i.wt.length cx3, .slice ax4 i.vl.length cx4, .slice ax5 i.cost.length cx5] 25] _ := hM
 refine Ends.loop (σ := Nat) (fun m (a : Act) (wv : World) => St 57 [(1, .pointer (some ⟨b1, 0, none⟩)), (4, .slice (some ⟨b3, 0, none⟩) i.n.toNat i.n.toNat), (7, .int .i64 ((flS i l m).2.1)), (8, .int .i64 ((flS i l m).2.2)), (24, .slice la l.length lc), (25, .int .i64 ((l.length : Int))), (26, .int .i64 ((m : Int)))] a ∧ Mem w nof [rd la lc l, pt b3 ((ints (flS i l m).1)) 3, pt b1 #[.int .i64 i.kind, .int .i64 i.n, .int .i64 i.cap, .slice ax3 i.wt.length cx3, .slice ax4 i.vl.length cx4, .slice ax5 i.cost.length cx5] 25] wv ∧ (m ≤ i.n.toNat)) (fun m => i.n.toNat - m) 0 ⟨hA.sub ((.cons rfl (.cons rfl (.cons rfl (.cons rfl (.cons rfl (.cons rfl (.cons rfl .nil)))))))), hM, (Nat.zero_le _)⟩ ?_
 clear hA hM a
 rintro m a w4 ⟨hA, hM, hm⟩ hNext
 refine Ends.seq (Ends.region ?_)
 refine S.val hA (R.lss rfl rfl) rfl ?_; clear hA a; intro a hA
 refine S.done ?_
 refine Ends.seq ?_
 refine Ends.ite hA rfl (fun hc5 => ?_) (fun hc5 => ?_)
 ·
  have hla := hlat m (by omega)
  have hfl := flS_len i l m
  have hfr := flS_room hF l m
  have hfw := flS_worth hF l m
  have hwa := hwr (l.getD m 0).toNat
  have hva := hvr (l.getD m 0).toNat
  refine Ends.skip (Ends.seq (Ends.block (Ends.seq (Ends.region ?_))))
  refine S.val hA (R.idxI (hM.rd (k := 0) rfl) (j := m) sl22 rfl rfl (by omega) (rfl)) rfl ?_; clear hA a; intro a hA
  refine S.val hA (R.loadI (hM.rd (k := 0) rfl) sz3 rfl (by omega)) rfl ?_; clear hA a; intro a hA
  refine S.val hA (R.assign rfl) rfl ?_; clear hA a; intro a hA
  refine S.done ?_
  refine Ends.seq (Ends.region ?_)
  refine S.val hA (R.fieldAddr (q := 3) fi25_3 rfl rfl rfl) rfl ?_; clear hA a; intro a hA
  refine S.val hA (R.load sz22 rfl (hM.cell (k := 2) rfl rfl)) rfl ?_; clear hA a; intro a hA
  refine S.val hA (R.move rfl) rfl ?_; clear hA a; intro a hA
  refine S.val hA (R.idxI hx3 (j := (l.getD m 0).toNat) sl22 rfl rfl (by omega) (rfl)) rfl ?_; clear hA a; intro a hA
  refine S.val hA (R.loadI (hx3.mem hM) sz3 rfl (by omega)) rfl ?_; clear hA a; intro a hA
  refine S.val hA (R.move rfl) rfl ?_; clear hA a; intro a hA
  refine S.val hA (R.leq rfl rfl) rfl ?_; clear hA a; intro a hA
  refine S.done ?_
  replace hA : St 57 [(1, _), (4, _), (7, _), (8, _), (10, _), (24, _), (25, _), (26, _), (36, _)] a := hA.sub ((.cons rfl (.cons rfl (.cons rfl (.cons rfl (.cons rfl (.cons rfl (.cons rfl (.cons rfl (.cons rfl .nil))))))))))
  refine Ends.ite hA rfl (fun hc6 => ?_) (fun hc6 => ?_)
  ·
   refine Ends.seq (Ends.region ?_)
   refine S.val hA (R.move rfl) rfl ?_; clear hA a; intro a hA
   refine S.val hA (R.move rfl) rfl ?_; clear hA a; intro a hA
   refine S.val hA (R.indexAddr (q := (l.getD m 0).toNat) sl22 rfl rfl (by omega) (by omega)) rfl ?_; clear hA a; intro a hA
   refine S.store (k := 1) hA hM sz3 rfl rfl rfl rfl (ints_getD ((flS i l m).1) _ (by omega)) ?_; clear hM
   intro w5 hM
   rw [ints_set] at hM
   replace hM : Mem _ _ [rd la lc l, pt b3 ((ints (((flS i l m).1).set ((l.getD m 0).toNat) 1))) 3, pt b1 #[.int .i64 i.kind, .int .i64 i.n, .int .i64 i.cap, .slice ax3 i.wt.length cx3, .slice ax4 i.vl.length cx4, .slice ax5 i.cost.length cx5] 25] _ := hM
   refine S.done ?_
   replace hA : St 57 [(1, _), (4, _), (7, _), (8, _), (10, _), (24, _), (25, _), (26, _)] a := hA.sub ((.cons rfl (.cons rfl (.cons rfl (.cons rfl (.cons rfl (.cons rfl (.cons rfl (.cons rfl .nil)))))))))
   refine Ends.seq (Ends.region ?_)
   refine S.val hA (R.move rfl) rfl ?_; clear hA a; intro a hA
   refine S.val hA (R.fieldAddr (q := 3) fi25_3 rfl rfl rfl) rfl ?_; clear hA a; intro a hA
   refine S.val hA (R.load sz22 rfl (hM.cell (k := 2) rfl rfl)) rfl ?_; clear hA a; intro a hA
   refine S.val hA (R.move rfl) rfl ?_; clear hA a; intro a hA
   refine S.val hA (R.idxI hx3 (j := (l.getD m 0).toNat) sl22 rfl rfl (by omega) (rfl)) rfl ?_; clear hA a; intro a hA
   refine S.val hA (R.loadI (hx3.mem hM) sz3 rfl (by omega)) rfl ?_; clear hA a; intro a hA
   refine S.val hA (R.subI rfl rfl (r := ((flS i l m).2.1) - (i.wt.getD ((l.getD m 0).toNat) 0)) rfl (by omega)) rfl ?_; clear hA a; intro a hA
   refine S.val hA (R.assign rfl) rfl ?_; clear hA a; intro a hA
   refine S.done ?_
   replace hA : St 57 [(1, _), (4, _), (7, _), (8, _), (10, _), (24, _), (25, _), (26, _)] a := hA.sub ((.cons rfl (.cons rfl (.cons rfl (.cons rfl (.cons rfl (.cons rfl (.cons rfl (.cons rfl .nil)))))))))
   refine Ends.region ?_
   refine S.val hA (R.move rfl) rfl ?_; clear hA a; intro a hA
   refine S.val hA (R.fieldAddr (q := 4) fi25_4 rfl rfl rfl) rfl ?_; clear hA a; intro a hA
   refine S.val hA (R.load sz22 rfl (hM.cell (k := 2) rfl rfl)) rfl ?_; clear hA a; intro a hA
   refine S.val hA (R.move rfl) rfl ?_; clear hA a; intro a hA
   refine S.val hA (R.idxI hx4 (j := (l.getD m 0).toNat) sl22 rfl rfl (by omega) (rfl)) rfl ?_; clear hA a; intro a hA
   refine S.val hA (R.loadI (hx4.mem hM) sz3 rfl (by omega)) rfl ?_; clear hA a; intro a hA
   refine S.val hA (R.addI rfl rfl (r := ((flS i l m).2.2) + (i.vl.getD ((l.getD m 0).toNat) 0)) rfl (by omega)) rfl ?_; clear hA a; intro a hA
   refine S.val hA (R.assign rfl) rfl ?_; clear hA a; intro a hA
   refine S.done ?_
   replace hA : St 57 [(1, _), (4, _), (7, _), (8, _), (24, _), (25, _), (26, _)] a := hA.sub ((.cons rfl (.cons rfl (.cons rfl (.cons rfl (.cons rfl (.cons rfl (.cons rfl .nil))))))))
   refine Ends.inBlock (Ends.region ?_)
   refine S.val hA (R.addI rfl rfl (r := ((m : Int)) + 1) rfl (by omega)) rfl ?_; clear hA a; intro a hA
   refine S.val hA (R.move rfl) rfl ?_; clear hA a; intro a hA
   refine S.done ?_
   have hs9 := flS_take hc6
   rw [show (flS i l m).1.set (l.getD m 0).toNat 1 = (flS i l (m + 1)).1 by rw [hs9]] at hM
   rw [show (flS i l m).2.1 - i.wt.getD (l.getD m 0).toNat 0 = (flS i l (m + 1)).2.1 by rw [hs9], show (flS i l m).2.2 + i.vl.getD (l.getD m 0).toNat 0 = (flS i l (m + 1)).2.2 by rw [hs9]] at hA
   replace hM : Mem _ _ [rd la lc l, pt b3 ((ints (flS i l (m + 1)).1)) 3, pt b1 #[.int .i64 i.kind, .int .i64 i.n, .int .i64 i.cap, .slice ax3 i.wt.length cx3, .slice ax4 i.vl.length cx4, .slice ax5 i.cost.length cx5] 25] _ := hM
   exact hNext ((m + 1)) _ _ ((by show i.n.toNat - (m + 1) < i.n.toNat - m; omega)) ⟨hA.sub ((.cons rfl (.cons rfl (.cons rfl (.cons rfl (.cons rfl (.cons rfl (.cons rfl .nil)))))))), hM, (by omega)⟩
  ·
   refine Ends.skip (Ends.inBlock (Ends.region ?_))
   refine S.val hA (R.addI rfl rfl (r := ((m : Int)) + 1) rfl (by omega)) rfl ?_; clear hA a; intro a hA
   refine S.val hA (R.move rfl) rfl ?_; clear hA a; intro a hA
   refine S.done ?_
   have hs9 := flS_leave hc6
   rw [← hs9] at hM hA
   replace hM : Mem _ _ [rd la lc l, pt b3 ((ints (flS i l (m + 1)).1)) 3, pt b1 #[.int .i64 i.kind, .int .i64 i.n, .int .i64 i.cap, .slice ax3 i.wt.length cx3, .slice ax4 i.vl.length cx4, .slice ax5 i.cost.length cx5] 25] _ := hM
   exact hNext ((m + 1)) _ _ ((by show i.n.toNat - (m + 1) < i.n.toNat - m; omega)) ⟨hA.sub ((.cons rfl (.cons rfl (.cons rfl (.cons rfl (.cons rfl (.cons rfl (.cons rfl .nil)))))))), hM, (by omega)⟩
 ·
  have hme : m = i.n.toNat := by omega
  refine Ends.exit rfl ?_
  replace hA : St 57 [(4, _), (8, _)] a := hA.sub ((.cons rfl (.cons rfl .nil)))
  refine Ends.seq (Ends.region ?_)
  refine S.val hA (R.move rfl) rfl ?_; clear hA a; intro a hA
  refine S.val hA (R.move rfl) rfl ?_; clear hA a; intro a hA
  refine S.val hA (R.assign rfl) rfl ?_; clear hA a; intro a hA
  refine S.val hA (R.assign rfl) rfl ?_; clear hA a; intro a hA
  refine S.done ?_
  replace hA : St 57 [(2, _), (3, _)] a := hA.sub ((.cons rfl (.cons rfl .nil)))
  refine Ends.ret2 Try.func62 Try.results62 hA rfl rfl ?_
  subst hl
  rw [hme] at hM ⊢
  have hfl := flS_len i (byQ i.vl i.wt) i.n.toNat
  have hr := hM.ptRs (k := 1) (X := (flS i (byQ i.vl i.wt) i.n.toNat).1) rfl (by omega)
  rw [hfl] at hr
  exact ⟨_, _, by rw [hfl], by rw [hfl]; exact hr, Mem.trans0 hbs hM.nilL⟩
set_option maxRecDepth 100000 in
set_option maxHeartbeats 400000 in
theorem alone10 (i : Ins) (ax3 : Option Addr) (cx3 : Nat) (ax4 : Option Addr) (cx4 : Nat) (ax5 : Option Addr) (cx5 : Nat) (hF : InF i) (hk1 : i.kind = 1) (w : World) (hx3 : IntSl w (.slice ax3 i.wt.length cx3) i.wt) (hx4 : IntSl w (.slice ax4 i.vl.length cx4) i.vl) (hx5 : RowsV w (.slice ax5 i.cost.length cx5) i.cost) :
  Calls Try.prog 63 #[.agg #[.int .i64 i.kind, .int .i64 i.n, .int .i64 i.cap, .slice ax3 i.wt.length cx3, .slice ax4 i.vl.length cx4, .slice ax5 i.cost.length cx5]] w fun e w' => e = .returned (.int .i64 (alI i i.n.toNat)) ∧ Below w.heap.size w w' := by
 have hbs := Below.refl (B := w.heap.size) w
 have f1 := hF.n1
 have f3 := hF.n64
 have f5 := hF.wt
 have f6 := hF.vl
 have f8 := hF.cap
 rw [if_pos hk1] at f5 f6
 have hwr := hF.wtr
 have hvr := hF.vlr
 have hal := alI_bd i
 have hrp : (List.replicate i.n.toNat (0 : Int)).length = i.n.toNat := List.length_replicate
 have hM := Mem.start w
 refine Calls.of_ends (vs := [.agg #[.int .i64 i.kind, .int .i64 i.n, .int .i64 i.cap, .slice ax3 i.wt.length cx3, .slice ax4 i.vl.length cx4, .slice ax5 i.cost.length cx5]]) Try.func63 rfl Try.ntmps63 rfl ?_
 intro a hA
 replace hA : St 38 [(0, _)] a := hA
 refine Ends.seq (Ends.region ?_)
 refine S.box hA hM rfl rfl ?_; clear hA hM a; intro b1 w1 hb2 hM a hA
 replace hM : Mem _ _ [pt b1 #[.int .i64 i.kind, .int .i64 i.n, .int .i64 i.cap, .slice ax3 i.wt.length cx3, .slice ax4 i.vl.length cx4, .slice ax5 i.cost.length cx5] 25] _ := hM
 refine S.val hA (R.assign rfl) rfl ?_; clear hA a; intro a hA
 refine S.done ?_
 refine Ends.seq (Ends.region ?_)
 refine S.val hA (R.to (v := .int .i64 (alI i 0)) (R.assign rfl) (rfl)) rfl ?_; clear hA a; intro a hA
 refine S.done ?_
 refine Ends.seq (Ends.seq (Ends.region ?_))
 refine S.val hA (R.fieldAddr (q := 3) fi25_3 rfl rfl rfl) rfl ?_; clear hA a; intro a hA
 refine S.val hA (R.load sz22 rfl (hM.cell (k := 0) rfl rfl)) rfl ?_; clear hA a; intro a hA
 refine S.val hA (R.lenS Try.underlying22 rfl rfl) rfl ?_; clear hA a; intro a hA
 refine S.val hA (R.move rfl) rfl ?_; clear hA a; intro a hA
 refine S.done ?_
 refine Ends.block ?_
 refine Ends.loop (σ := Nat) (fun k (a : Act) (wv : World) => St 38 [(1, .pointer (some ⟨b1, 0, none⟩)), (3, .int .i64 (alI i k)), (7, .slice ax3 i.wt.length cx3), (8, .int .i64 ((i.wt.length : Int))), (9, .int .i64 ((k : Int)))] a ∧ Mem w nof [pt b1 #[.int .i64 i.kind, .int .i64 i.n, .int .i64 i.cap, .slice ax3 i.wt.length cx3, .slice ax4 i.vl.length cx4, .slice ax5 i.cost.length cx5] 25] wv ∧ (k ≤ i.wt.length)) (fun k => i.wt.length - k) 0 ⟨hA.sub ((.cons rfl (.cons rfl (.cons rfl (.cons rfl (.cons rfl .nil)))))), hM, (Nat.zero_le _)⟩ ?_
 clear hA hM a
 rintro k a w2 ⟨hA, hM, hk⟩ hNext
 refine Ends.seq (Ends.region ?_)
 refine S.val hA (R.lss rfl rfl) rfl ?_; clear hA a; intro a hA
 refine S.done ?_
 refine Ends.seq ?_
 refine Ends.ite hA rfl (fun hc3 => ?_) (fun hc3 => ?_)
 ·
  have hab := hal k
  refine Ends.skip (Ends.seq (Ends.block (Ends.seq (Ends.region ?_))))
  refine S.val hA (R.move rfl) rfl ?_; clear hA a; intro a hA
  refine S.val hA (R.idxI hx3 (j := k) sl22 rfl rfl (by omega) (rfl)) rfl ?_; clear hA a; intro a hA
  refine S.val hA (R.loadI (hx3.mem hM) sz3 rfl (by omega)) rfl ?_; clear hA a; intro a hA
  refine S.val hA (R.assign rfl) rfl ?_; clear hA a; intro a hA
  refine S.val hA (R.assign rfl) rfl ?_; clear hA a; intro a hA
  refine S.done ?_
  replace hA : St 38 [(1, _), (3, _), (4, _), (5, _), (7, _), (8, _), (9, _)] a := hA.sub ((.cons rfl (.cons rfl (.cons rfl (.cons rfl (.cons rfl (.cons rfl (.cons rfl .nil))))))))
  refine Ends.seq ?_
  refine Ends.cut (fun (a : Act) (wv : World) => St 38 [(1, .pointer (some ⟨b1, 0, none⟩)), (3, .int .i64 (alI i k)), (4, .int .i64 ((k : Int))), (7, .slice ax3 i.wt.length cx3), (8, .int .i64 ((i.wt.length : Int))), (9, .int .i64 ((k : Int))), (34, .bool (decide (((i.wt.getD k 0) ≤ i.cap ∧ ((alI i k) < 0 ∨ (i.vl.getD ((alI i k).toNat) 0) < (i.vl.getD k 0))))))] a ∧ Mem w nof [pt b1 #[.int .i64 i.kind, .int .i64 i.n, .int .i64 i.cap, .slice ax3 i.wt.length cx3, .slice ax4 i.vl.length cx4, .slice ax5 i.cost.length cx5] 25] wv) ?_ (fun k2 hJ => ?_)
  ·
   clear hA hM a; rintro a w3 ⟨hA, hM⟩
   refine Ends.ite hA rfl (fun hc4 => ?_) (fun hc4 => ?_)
   ·
    have hs9 : alI i (k + 1) = (k : Int) := by rw [alI]; exact if_pos hc4
    refine Ends.region ?_
    refine S.val hA (R.move rfl) rfl ?_; clear hA a; intro a hA
    refine S.val hA (R.to (v := .int .i64 (alI i (k + 1))) (R.assign rfl) (congrArg (Value.int .i64) hs9.symm)) rfl ?_; clear hA a; intro a hA
    refine S.done ?_
    refine Ends.inBlock (Ends.region ?_)
    refine S.val hA (R.addI rfl rfl (r := ((k : Int)) + 1) rfl (by omega)) rfl ?_; clear hA a; intro a hA
    refine S.val hA (R.move rfl) rfl ?_; clear hA a; intro a hA
    refine S.done ?_
    replace hA : St 38 [(1, _), (3, _), (7, _), (8, _), (9, _)] a := hA.sub ((.cons rfl (.cons rfl (.cons rfl (.cons rfl (.cons rfl .nil))))))
    exact hNext ((k + 1)) _ _ ((by show i.wt.length - (k + 1) < i.wt.length - k; omega)) ⟨hA.sub ((.cons rfl (.cons rfl (.cons rfl (.cons rfl (.cons rfl .nil)))))), hM, (by omega)⟩
   ·
    have hs9 : alI i (k + 1) = alI i k := by rw [alI]; exact if_neg hc4
    refine Ends.skip (Ends.inBlock (Ends.region ?_))
    refine S.val hA (R.addI rfl rfl (r := ((k : Int)) + 1) rfl (by omega)) rfl ?_; clear hA a; intro a hA
    refine S.val hA (R.move rfl) rfl ?_; clear hA a; intro a hA
    refine S.done ?_
    rw [← hs9] at hA
    exact hNext ((k + 1)) _ _ ((by show i.wt.length - (k + 1) < i.wt.length - k; omega)) ⟨hA.sub ((.cons rfl (.cons rfl (.cons rfl (.cons rfl (.cons rfl .nil)))))), hM, (by omega)⟩
  ·
   refine Ends.drawn (Mem w nof [pt b1 #[.int .i64 i.kind, .int .i64 i.n, .int .i64 i.cap, .slice ax3 i.wt.length cx3, .slice ax4 i.vl.length cx4, .slice ax5 i.cost.length cx5] 25]) (.cons (0, true) (.cons (1, true) (.cons (2, true) (.cons (3, true) (.cons (4, true) (.cons (5, true) (.cons (6, true) (.cons (7, true) (.cons (8, true) (.cons (9, true) (.cons (10, true) (.cons (11, true) (.cons (12, true) (.cons (13, true) (.cons (14, true) (.cons (15, true) (.cons (16, true) (.cons (17, true) (.cons (18, true) (.cons (19, true) (.cons (20, true) .nil))))))))))))))))))))) 21 mixed (by kernel_rfl) (by kernel_rfl) (by kernel_rfl) hM.drew ?_
   replace hM := hM.drew
   refine D.valF hA rfl (fun _ => R.move rfl) rfl ?_; clear hA a; intro a hA
   refine D.valF hA rfl (fun _ => R.fieldAddr (q := 2) fi25_2 rfl rfl rfl) rfl ?_; clear hA a; intro a hA
   refine D.val hA rfl (by kernel_rfl) (fun _ hM => R.load sz3 rfl (hM.cell (k := 0) rfl rfl)) rfl ?_; clear hA a; intro a hA
   refine D.valF hA rfl (fun _ => R.leq rfl rfl) rfl ?_; clear hA a; intro a hA
   refine D.valF hA rfl (fun _ => R.move rfl) rfl ?_; clear hA a; intro a hA
   refine hA.split (d := 18) rfl ?_ ?_
   ·
    clear hA; intro hg5 hA
    refine D.valgF (dj := 18) hA rfl (by kernel_rfl) rfl (fun _ => R.move rfl) rfl ?_; clear hA a; intro a hA
    refine D.valgF (dj := 18) hA rfl (by kernel_rfl) rfl (fun _ => R.lss rfl rfl) rfl ?_; clear hA a; intro a hA
    refine D.valgF (dj := 18) hA rfl (by kernel_rfl) rfl (fun _ => R.move rfl) rfl ?_; clear hA a; intro a hA
    refine hA.split (d := 21) rfl ?_ ?_
    ·
     clear hA; intro hg6 hA
     refine D.no (dj := 21) hA rfl (by kernel_rfl) rfl rfl rfl ?_; clear hA a; intro a hA
     refine D.no (dj := 21) hA rfl (by kernel_rfl) rfl rfl rfl ?_; clear hA a; intro a hA
     refine D.no (dj := 21) hA rfl (by kernel_rfl) rfl rfl rfl ?_; clear hA a; intro a hA
     refine D.no (dj := 21) hA rfl (by kernel_rfl) rfl rfl rfl ?_; clear hA a; intro a hA
     refine D.no (dj := 21) hA rfl (by kernel_rfl) rfl rfl rfl ?_; clear hA a; intro a hA
     refine D.no (dj := 21) hA rfl (by kernel_rfl) rfl rfl rfl ?_; clear hA a; intro a hA
     refine D.no (dj := 21) hA rfl (by kernel_rfl) rfl rfl rfl ?_; clear hA a; intro a hA
     refine D.no (dj := 21) hA rfl (by kernel_rfl) rfl rfl rfl ?_; clear hA a; intro a hA
     refine D.no (dj := 21) hA rfl (by kernel_rfl) rfl rfl rfl ?_; clear hA a; intro a hA
     refine D.no (dj := 21) hA rfl (by kernel_rfl) rfl rfl rfl ?_; clear hA a; intro a hA
     refine D.no (dj := 21) hA rfl (by kernel_rfl) rfl rfl rfl ?_; clear hA a; intro a hA
     refine D.valgF (dj := 18) hA rfl (by kernel_rfl) rfl (fun _ => R.pickT rfl rfl) rfl ?_; clear hA a; intro a hA
     refine D.valF hA rfl (fun _ => R.pickT rfl rfl) rfl ?_; clear hA a; intro a hA
     refine D.done ?_
     replace hA : St 38 [(1, _), (3, _), (4, _), (7, _), (8, _), (9, _), (34, _)] a := hA.sub ((.cons rfl (.cons rfl (.cons rfl (.cons rfl (.cons rfl (.cons rfl (.cons rfl .nil))))))))
     exact hJ _ _ ⟨hA.sub (.cons rfl (.cons rfl (.cons rfl (.cons rfl (.cons rfl (.cons rfl (.cons (by first | rfl | exact congrArg (fun b => some (Value.bool b)) (by first | exact decide_eq_decide.2 (by omega) | exact or_bool (by omega) | exact and_bool (by omega) | (simp; done) | (simp [hg5, hg6]; done) | (have h80 := hg5; (try simp at h80); have h81 := hg6; (try simp at h81); simp [h80, h81]; done) | exact (decide_eq_false (fun h9 => hg5 h9.1)).symm | exact (decide_eq_false (fun h9 => hg6 h9.1)).symm)) .nil))))))), hM⟩
    ·
     clear hA; intro hg6 hA
     refine D.valgF (dj := 21) hA rfl (by kernel_rfl) rfl (fun _ => R.fieldAddr (q := 4) fi25_4 rfl rfl rfl) rfl ?_; clear hA a; intro a hA
     refine D.valg (dj := 21) hA rfl (by kernel_rfl) (by kernel_rfl) rfl (fun _ hM => R.load sz22 rfl (hM.cell (k := 0) rfl rfl)) rfl ?_; clear hA a; intro a hA
     refine D.valgF (dj := 21) hA rfl (by kernel_rfl) rfl (fun _ => R.move rfl) rfl ?_; clear hA a; intro a hA
     refine D.valgF (dj := 21) hA rfl (by kernel_rfl) rfl (fun _ => R.idxI hx4 (j := k) sl22 rfl rfl (by omega) (rfl)) rfl ?_; clear hA a; intro a hA
     refine D.valg (dj := 21) hA rfl (by kernel_rfl) (by kernel_rfl) rfl (fun _ hM => R.loadI (hx4.mem hM) sz3 rfl (by omega)) rfl ?_; clear hA a; intro a hA
     refine D.valgF (dj := 21) hA rfl (by kernel_rfl) rfl (fun _ => R.fieldAddr (q := 4) fi25_4 rfl rfl rfl) rfl ?_; clear hA a; intro a hA
     refine D.valg (dj := 21) hA rfl (by kernel_rfl) (by kernel_rfl) rfl (fun _ hM => R.load sz22 rfl (hM.cell (k := 0) rfl rfl)) rfl ?_; clear hA a; intro a hA
     refine D.valgF (dj := 21) hA rfl (by kernel_rfl) rfl (fun _ => R.move rfl) rfl ?_; clear hA a; intro a hA
     refine D.valgF (dj := 21) hA rfl (by kernel_rfl) rfl (fun _ => R.idxI hx4 (j := (alI i k).toNat) sl22 rfl rfl (by omega) (rfl)) rfl ?_; clear hA a; intro a hA
     refine D.valg (dj := 21) hA rfl (by kernel_rfl) (by kernel_rfl) rfl (fun _ hM => R.loadI (hx4.mem hM) sz3 rfl (by omega)) rfl ?_; clear hA a; intro a hA
     refine D.valgF (dj := 21) hA rfl (by kernel_rfl) rfl (fun _ => R.gtr rfl rfl) rfl ?_; clear hA a; intro a hA
     refine D.valgF (dj := 18) hA rfl (by kernel_rfl) rfl (fun _ => R.pickF rfl rfl) rfl ?_; clear hA a; intro a hA
     refine D.valF hA rfl (fun _ => R.pickT rfl rfl) rfl ?_; clear hA a; intro a hA
     refine D.done ?_
     replace hA : St 38 [(1, _), (3, _), (4, _), (7, _), (8, _), (9, _), (34, _)] a := hA.sub ((.cons rfl (.cons rfl (.cons rfl (.cons rfl (.cons rfl (.cons rfl (.cons rfl .nil))))))))
     exact hJ _ _ ⟨hA.sub (.cons rfl (.cons rfl (.cons rfl (.cons rfl (.cons rfl (.cons rfl (.cons (by first | rfl | exact congrArg (fun b => some (Value.bool b)) (by first | exact decide_eq_decide.2 (by omega) | exact or_bool (by omega) | exact and_bool (by omega) | (simp; done) | (simp [hg5, hg6]; done) | (have h80 := hg5; (try simp at h80); have h81 := hg6; (try simp at h81); simp [h80, h81]; done) | exact (decide_eq_false (fun h9 => hg5 h9.1)).symm | exact (decide_eq_false (fun h9 => hg6 h9.1)).symm)) .nil))))))), hM⟩
   ·
    clear hA; intro hg5 hA
    refine D.no (dj := 18) hA rfl (by kernel_rfl) rfl rfl rfl ?_; clear hA a; intro a hA
    refine D.no (dj := 18) hA rfl (by kernel_rfl) rfl rfl rfl ?_; clear hA a; intro a hA
    refine D.no (dj := 18) hA rfl (by kernel_rfl) rfl rfl rfl ?_; clear hA a; intro a hA
    refine D.noU (dj := 21) hA rfl (by kernel_rfl) rfl rfl ?_; clear hA a; intro a hA
    refine D.noU (dj := 21) hA rfl (by kernel_rfl) rfl rfl ?_; clear hA a; intro a hA
    refine D.noU (dj := 21) hA rfl (by kernel_rfl) rfl rfl ?_; clear hA a; intro a hA
    refine D.noU (dj := 21) hA rfl (by kernel_rfl) rfl rfl ?_; clear hA a; intro a hA
    refine D.noU (dj := 21) hA rfl (by kernel_rfl) rfl rfl ?_; clear hA a; intro a hA
    refine D.noU (dj := 21) hA rfl (by kernel_rfl) rfl rfl ?_; clear hA a; intro a hA
    refine D.noU (dj := 21) hA rfl (by kernel_rfl) rfl rfl ?_; clear hA a; intro a hA
    refine D.noU (dj := 21) hA rfl (by kernel_rfl) rfl rfl ?_; clear hA a; intro a hA
    refine D.noU (dj := 21) hA rfl (by kernel_rfl) rfl rfl ?_; clear hA a; intro a hA
    refine D.noU (dj := 21) hA rfl (by kernel_rfl) rfl rfl ?_; clear hA a; intro a hA
    refine D.noU (dj := 21) hA rfl (by kernel_rfl) rfl rfl ?_; clear hA a; intro a hA
    refine D.no (dj := 18) hA rfl (by kernel_rfl) rfl rfl rfl ?_; clear hA a; intro a hA
    refine D.valF hA rfl (fun _ => R.pickF rfl rfl) rfl ?_; clear hA a; intro a hA
    refine D.done ?_
    replace hA : St 38 [(1, _), (3, _), (4, _), (7, _), (8, _), (9, _), (34, _)] a := hA.sub ((.cons rfl (.cons rfl (.cons rfl (.cons rfl (.cons rfl (.cons rfl (.cons rfl .nil))))))))
    exact hJ _ _ ⟨hA.sub (.cons rfl (.cons rfl (.cons rfl (.cons rfl (.cons rfl (.cons rfl (.cons (by first | rfl | exact congrArg (fun b => some (Value.bool b)) (by first | exact decide_eq_decide.2 (by omega) | exact or_bool (by omega) | exact and_bool (by omega) | (simp; done) | (simp [hg5]; done) | (have h80 := hg5; (try simp at h80); simp [h80]; done) | exact (decide_eq_false (fun h9 => hg5 h9.1)).symm)) .nil))))))), hM⟩
 ·
  have hab := hal k
  have hke : k = i.wt.length := by omega
  refine Ends.exit rfl ?_
  replace hA : St 38 [(3, _)] a := hA.sub ((.cons rfl .nil))
  refine Ends.seq (Ends.region ?_)
  refine S.val hA (R.move rfl) rfl ?_; clear hA a; intro a hA
  refine S.val hA (R.assign rfl) rfl ?_; clear hA a; intro a hA
  refine S.done ?_
  refine Ends.ret1 Try.func63 Try.results63 hA rfl ?_
  exact ⟨by rw [hke, f5], Mem.trans0 hbs hM.nilL⟩
set_option maxRecDepth 100000 in
set_option maxHeartbeats 400000 in
theorem knap10 (i : Ins) (ax3 : Option Addr) (cx3 : Nat) (ax4 : Option Addr) (cx4 : Nat) (ax5 : Option Addr) (cx5 : Nat) (hF : InF i) (hk1 : i.kind = 1) (w : World) (hx3 : IntSl w (.slice ax3 i.wt.length cx3) i.wt) (hx4 : IntSl w (.slice ax4 i.vl.length cx4) i.vl) (hx5 : RowsV w (.slice ax5 i.cost.length cx5) i.cost) :
  Calls Try.prog 46 #[.agg #[.int .i64 i.kind, .int .i64 i.n, .int .i64 i.cap, .slice ax3 i.wt.length cx3, .slice ax4 i.vl.length cx4, .slice ax5 i.cost.length cx5]] w fun e w' => ∃ a c, e = .returned (.slice a ((knS i)).length c) ∧ IntSl w' (.slice a ((knS i)).length c) ((knS i)) ∧ Below w.heap.size w w' := by
 have hbs := Below.refl (B := w.heap.size) w
 have f1 := hF.n1
 have f3 := hF.n64
 have f5 := hF.wt
 have f6 := hF.vl
 have f8 := hF.cap
 rw [if_pos hk1] at f5 f6
 have hwr := hF.wtr
 have hvr := hF.vlr
 have hal := alI_bd i
 have hrp : (List.replicate i.n.toNat (0 : Int)).length = i.n.toNat := List.length_replicate
 have hab := hal i.n.toNat
 have hM := Mem.start w
 refine Calls.of_ends (vs := [.agg #[.int .i64 i.kind, .int .i64 i.n, .int .i64 i.cap, .slice ax3 i.wt.length cx3, .slice ax4 i.vl.length cx4, .slice ax5 i.cost.length cx5]]) Try.func46 rfl Try.ntmps46 rfl ?_
 intro a hA
 replace hA : St 31 [(0, _)] a := hA
 refine Ends.seq (Ends.region ?_)
 refine S.box hA hM rfl rfl ?_; clear hA hM a; intro b1 w1 hb2 hM a hA
 replace hM : Mem _ _ [pt b1 #[.int .i64 i.kind, .int .i64 i.n, .int .i64 i.cap, .slice ax3 i.wt.length cx3, .slice ax4 i.vl.length cx4, .slice ax5 i.cost.length cx5] 25] _ := hM
 refine S.val hA (R.assign rfl) rfl ?_; clear hA a; intro a hA
 refine S.done ?_
 refine Ends.seq (Ends.region ?_)
 refine S.val hA (R.loadA sz25 rfl (hM.range (k := 0) rfl) rfl) rfl ?_; clear hA a; intro a hA
 refine S.call hA (R.callF Try.func62 rfl rfl rfl) rfl (fill10 i ax3 cx3 ax4 cx4 ax5 cx5 hF hk1 _ (hx3.mem hM) (hx4.mem hM) (hx5.mem hM)) ?_; clear hA a
 rintro e w2 ⟨ra3, rc4, rfl, rh5, hb⟩
 replace hM := hM.callB hb; clear hb
 have hbx6 := hM.block (k := 0) rfl
 have hbs := hbs.trans (hM.below.mono hbs.size)
 have hx3 := hx3.mem hM
 have hx4 := hx4.mem hM
 have hx5 := hx5.mem hM
 replace hM := Mem.start w2
 refine ⟨.tuple #[.slice ra3 (((flS i (byQ i.vl i.wt) i.n.toNat).1).length) rc4, .int .i64 ((flS i (byQ i.vl i.wt) i.n.toNat).2.2)], rfl, fun a hA => ?_⟩
 refine S.val hA (R.move rfl) rfl ?_; clear hA a; intro a hA
 refine S.val hA (R.extract (v := .slice ra3 (((flS i (byQ i.vl i.wt) i.n.toNat).1).length) rc4) rfl rfl) rfl ?_; clear hA a; intro a hA
 refine S.val hA (R.extract (v := .int .i64 ((flS i (byQ i.vl i.wt) i.n.toNat).2.2)) rfl rfl) rfl ?_; clear hA a; intro a hA
 refine S.val hA (R.assign rfl) rfl ?_; clear hA a; intro a hA
 refine S.val hA (R.assign rfl) rfl ?_; clear hA a; intro a hA
 refine S.done ?_
 replace hA : St 31 [(1, _), (3, _), (4, _)] a := hA.sub ((.cons rfl (.cons rfl (.cons rfl .nil))))
 refine Ends.seq (Ends.seq (Ends.region ?_))
 refine S.val hA (R.loadA sz25 rfl (hM.oldRange hbx6) rfl) rfl ?_; clear hA a; intro a hA
 refine S.call hA (R.callF Try.func63 rfl rfl rfl) rfl (alone10 i ax3 cx3 ax4 cx4 ax5 cx5 hF hk1 _ (hx3.mem hM) (hx4.mem hM) (hx5.mem hM)) ?_; clear hA a
 rintro e w3 ⟨rfl, hb⟩
 replace hM := hM.callB hb; clear hb
 refine ⟨.int .i64 (alI i i.n.toNat), rfl, fun a hA => ?_⟩
 refine S.val hA (R.assign rfl) rfl ?_; clear hA a; intro a hA
 refine S.done ?_
 refine Ends.seq ?_
 refine Ends.cut (fun (a : Act) (wv : World) => St 31 [(1, .pointer (some ⟨b1, 0, none⟩)), (3, .slice ra3 (((flS i (byQ i.vl i.wt) i.n.toNat).1).length) rc4), (5, .int .i64 (alI i i.n.toNat)), (23, .bool (decide ((0 ≤ (alI i i.n.toNat) ∧ ((flS i (byQ i.vl i.wt) i.n.toNat).2.2) < (i.vl.getD ((alI i i.n.toNat).toNat) 0)))))] a ∧ Mem w2 nof [] wv) ?_ (fun k2 hJ => ?_)
 ·
  clear hA hM a; rintro a w4 ⟨hA, hM⟩
  refine Ends.ite hA rfl (fun hc7 => ?_) (fun hc7 => ?_)
  ·
   refine Ends.seq (Ends.region ?_)
   refine S.val hA (R.fieldAddr (q := 1) fi25_1 rfl rfl rfl) rfl ?_; clear hA a; intro a hA
   refine S.val hA (R.load sz3 rfl (hM.cellB hbx6 rfl)) rfl ?_; clear hA a; intro a hA
   refine S.make hA hM Try.underlying22 info3 rfl rfl rfl (by omega) (by show (8 : Int) * _ ≤ _; omega) (by omega) rfl ?_; clear hA hM a; intro b8 w5 hb9 hM a hA
   replace hM : Mem _ _ [pt b8 (madeCells #[.int .i64 0] (i.n.toNat * 1)) 3] _ := hM
   rw [Nat.mul_one, made_ints] at hM
   replace hM : Mem _ _ [pt b8 ((ints (List.replicate i.n.toNat 0))) 3] _ := hM
   refine S.val hA (R.assign rfl) rfl ?_; clear hA a; intro a hA
   refine S.done ?_
   replace hA : St 31 [(3, _), (5, _)] a := hA.sub ((.cons rfl (.cons rfl .nil)))
   refine Ends.region ?_
   refine S.val hA (R.move rfl) rfl ?_; clear hA a; intro a hA
   refine S.val hA (R.move rfl) rfl ?_; clear hA a; intro a hA
   refine S.val hA (R.indexAddr (q := (alI i i.n.toNat).toNat) sl22 rfl rfl (by omega) (by omega)) rfl ?_; clear hA a; intro a hA
   refine S.store (k := 0) hA hM sz3 rfl rfl rfl rfl (ints_getD ((List.replicate i.n.toNat 0)) _ (by omega)) ?_; clear hM
   intro w6 hM
   rw [ints_set] at hM
   replace hM : Mem _ _ [pt b8 ((ints (((List.replicate i.n.toNat 0)).set ((alI i i.n.toNat).toNat) 1))) 3] _ := hM
   refine S.done ?_
   replace hA : St 31 [(3, _)] a := hA.sub ((.cons rfl .nil))
   refine Ends.seq (Ends.region ?_)
   refine S.val hA (R.move rfl) rfl ?_; clear hA a; intro a hA
   refine S.val hA (R.assign rfl) rfl ?_; clear hA a; intro a hA
   refine S.done ?_
   refine Ends.ret1 Try.func46 Try.results46 hA rfl ?_
   have he : knS i = (((List.replicate i.n.toNat 0)).set ((alI i i.n.toNat).toNat) 1) := if_pos hc7
   have hkl := knS_len i
   rw [← he] at hM
   have hr := hM.ptRs (k := 0) (X := knS i) rfl (by omega)
   rw [hkl] at hr
   exact ⟨_, _, by rw [hkl], by rw [hkl]; exact hr, Mem.trans0 hbs hM.nilL⟩
  ·
   refine Ends.skip (Ends.seq (Ends.region ?_))
   refine S.val hA (R.move rfl) rfl ?_; clear hA a; intro a hA
   refine S.val hA (R.assign rfl) rfl ?_; clear hA a; intro a hA
   refine S.done ?_
   replace hA : St 31 [(2, _)] a := hA.sub ((.cons rfl .nil))
   refine Ends.ret1 Try.func46 Try.results46 hA rfl ?_
   have he : knS i = (flS i (byQ i.vl i.wt) i.n.toNat).1 := if_neg hc7
   rw [he]
   exact ⟨_, _, rfl, rh5.mem hM, Mem.trans0 hbs hM.nilL⟩
 ·
  refine Ends.region ?_
  refine S.val hA (R.move rfl) rfl ?_; clear hA a; intro a hA
  refine S.val hA (R.geq rfl rfl) rfl ?_; clear hA a; intro a hA
  refine S.val hA (R.move rfl) rfl ?_; clear hA a; intro a hA
  refine hA.split (d := 15) rfl ?_ ?_
  ·
   clear hA; intro hg10 hA
   refine S.valg (dj := 15) hA (by kernel_rfl) rfl (R.fieldAddr (q := 4) fi25_4 rfl rfl rfl) rfl ?_; clear hA a; intro a hA
   refine S.valg (dj := 15) hA (by kernel_rfl) rfl (R.load sz22 rfl (hM.cellB hbx6 rfl)) rfl ?_; clear hA a; intro a hA
   refine S.valg (dj := 15) hA (by kernel_rfl) rfl (R.move rfl) rfl ?_; clear hA a; intro a hA
   refine S.valg (dj := 15) hA (by kernel_rfl) rfl (R.idxI hx4 (j := (alI i i.n.toNat).toNat) sl22 rfl rfl (by omega) (rfl)) rfl ?_; clear hA a; intro a hA
   refine S.valg (dj := 15) hA (by kernel_rfl) rfl (R.loadI (hx4.mem hM) sz3 rfl (by omega)) rfl ?_; clear hA a; intro a hA
   refine S.valg (dj := 15) hA (by kernel_rfl) rfl (R.move rfl) rfl ?_; clear hA a; intro a hA
   refine S.valg (dj := 15) hA (by kernel_rfl) rfl (R.gtr rfl rfl) rfl ?_; clear hA a; intro a hA
   refine S.val hA (R.pickT rfl rfl) rfl ?_; clear hA a; intro a hA
   refine S.done ?_
   replace hA : St 31 [(1, _), (3, _), (5, _), (23, _)] a := hA.sub ((.cons rfl (.cons rfl (.cons rfl (.cons rfl .nil)))))
   exact hJ _ _ ⟨hA.sub (.cons rfl (.cons rfl (.cons rfl (.cons (by first | rfl | exact congrArg (fun b => some (Value.bool b)) (by first | exact decide_eq_decide.2 (by omega) | exact or_bool (by omega) | exact and_bool (by omega) | (simp; done) | (simp [hg10]; done) | (have h80 := hg10; (try simp at h80); simp [h80]; done) | exact (decide_eq_false (fun h9 => hg10 h9.1)).symm)) .nil)))), hM⟩
  ·
   clear hA; intro hg10 hA
   refine S.no (dj := 15) hA (by kernel_rfl) rfl rfl rfl ?_; clear hA a; intro a hA
   refine S.no (dj := 15) hA (by kernel_rfl) rfl rfl rfl ?_; clear hA a; intro a hA
   refine S.no (dj := 15) hA (by kernel_rfl) rfl rfl rfl ?_; clear hA a; intro a hA
   refine S.no (dj := 15) hA (by kernel_rfl) rfl rfl rfl ?_; clear hA a; intro a hA
   refine S.no (dj := 15) hA (by kernel_rfl) rfl rfl rfl ?_; clear hA a; intro a hA
   refine S.no (dj := 15) hA (by kernel_rfl) rfl rfl rfl ?_; clear hA a; intro a hA
   refine S.no (dj := 15) hA (by kernel_rfl) rfl rfl rfl ?_; clear hA a; intro a hA
   refine S.val hA (R.pickF rfl rfl) rfl ?_; clear hA a; intro a hA
   refine S.done ?_
   replace hA : St 31 [(1, _), (3, _), (5, _), (23, _)] a := hA.sub ((.cons rfl (.cons rfl (.cons rfl (.cons rfl .nil)))))
   exact hJ _ _ ⟨hA.sub (.cons rfl (.cons rfl (.cons rfl (.cons (by first | rfl | exact congrArg (fun b => some (Value.bool b)) (by first | exact decide_eq_decide.2 (by omega) | exact or_bool (by omega) | exact and_bool (by omega) | (simp; done) | (simp [hg10]; done) | (have h80 := hg10; (try simp at h80); simp [h80]; done) | exact (decide_eq_false (fun h9 => hg10 h9.1)).symm)) .nil)))), hM⟩
set_option maxRecDepth 100000 in
set_option maxHeartbeats 400000 in
theorem cheap10 (ax : Option Addr) (V : List Int) (cx : Nat) (ub : Nat) (U : List Bool) (X : List Int) (n : Nat) (hRn : V.length = n) (hus : usOK X n U) (w : World) (hx : IntSl w (.slice ax V.length cx) V) (hqub : w.heap[ub]? = some (.cells (boo U) 4 (0, 0))) :
  Calls Try.prog 64 #[.slice ax V.length cx, .slice (some ⟨ub, 0, none⟩) n n] w fun e w' => e = .returned (.int .i64 (chI V X n)) ∧ Below w.heap.size w w' := by
 have hbs := Below.refl (B := w.heap.size) w
 have hlR := hx.lenB
 have hUl := hus.1
 have hM := Mem.start w
 refine Calls.of_ends (vs := [.slice ax V.length cx, .slice (some ⟨ub, 0, none⟩) n n]) Try.func64 rfl Try.ntmps64 rfl ?_
 intro a hA
 replace hA : St 35 [(0, _), (1, _)] a := hA
 refine Ends.seq (Ends.region ?_)
 refine S.val hA (R.assign rfl) rfl ?_; clear hA a; intro a hA
 refine S.done ?_
 refine Ends.seq (Ends.region ?_)
 refine S.val hA (R.to (v := .int .i64 (chI V X 0)) (R.assign rfl) (rfl)) rfl ?_; clear hA a; intro a hA
 refine S.done ?_
 refine Ends.seq (Ends.seq (Ends.region ?_))
 refine S.val hA (R.move rfl) rfl ?_; clear hA a; intro a hA
 refine S.val hA (R.lenS Try.underlying22 rfl rfl) rfl ?_; clear hA a; intro a hA
 refine S.val hA (R.move rfl) rfl ?_; clear hA a; intro a hA
 refine S.done ?_
 refine Ends.block ?_
 refine Ends.loop (σ := Nat) (fun k (a : Act) (wv : World) => St 35 [(0, .slice ax V.length cx), (1, .slice (some ⟨ub, 0, none⟩) n n), (5, .int .i64 (chI V X k)), (8, .slice ax V.length cx), (9, .int .i64 ((V.length : Int))), (10, .int .i64 ((k : Int)))] a ∧ Mem w nof [] wv ∧ (k ≤ n)) (fun k => n - k) 0 ⟨hA.sub ((.cons rfl (.cons rfl (.cons rfl (.cons rfl (.cons rfl (.cons rfl .nil))))))), hM, (Nat.zero_le _)⟩ ?_
 clear hA hM a
 rintro k a w1 ⟨hA, hM, hkk⟩ hNext
 refine Ends.seq (Ends.region ?_)
 refine S.val hA (R.lss rfl rfl) rfl ?_; clear hA a; intro a hA
 refine S.done ?_
 refine Ends.seq ?_
 refine Ends.ite hA rfl (fun hc1 => ?_) (fun hc1 => ?_)
 ·
  have hcb := chI_bd V X k
  have hu := hus.2 k (by omega)
  refine Ends.skip (Ends.seq (Ends.block (Ends.seq (Ends.region ?_))))
  refine S.val hA (R.move rfl) rfl ?_; clear hA a; intro a hA
  refine S.val hA (R.idxI hx (j := k) sl22 rfl rfl (by omega) (rfl)) rfl ?_; clear hA a; intro a hA
  refine S.val hA (R.loadI (hx.mem hM) sz3 rfl (by omega)) rfl ?_; clear hA a; intro a hA
  refine S.val hA (R.assign rfl) rfl ?_; clear hA a; intro a hA
  refine S.val hA (R.assign rfl) rfl ?_; clear hA a; intro a hA
  refine S.done ?_
  replace hA : St 35 [(0, _), (1, _), (5, _), (6, _), (7, _), (8, _), (9, _), (10, _)] a := hA.sub ((.cons rfl (.cons rfl (.cons rfl (.cons rfl (.cons rfl (.cons rfl (.cons rfl (.cons rfl .nil)))))))))
  refine Ends.seq ?_
  refine Ends.cut (fun (a : Act) (wv : World) => St 35 [(0, .slice ax V.length cx), (1, .slice (some ⟨ub, 0, none⟩) n n), (5, .int .i64 (chI V X k)), (6, .int .i64 ((k : Int))), (8, .slice ax V.length cx), (9, .int .i64 ((V.length : Int))), (10, .int .i64 ((k : Int))), (31, .bool (decide ((¬ ((k : Int) ∈ X) ∧ ((chI V X k) < 0 ∨ (V.getD k 0) < (V.getD ((chI V X k).toNat) 0))))))] a ∧ Mem w nof [] wv) ?_ (fun k2 hJ => ?_)
  ·
   clear hA hM a; rintro a w2 ⟨hA, hM⟩
   refine Ends.ite hA rfl (fun hc2 => ?_) (fun hc2 => ?_)
   ·
    have hs9 : chI V X (k + 1) = (k : Int) := by
     rw [chI]; exact if_pos hc2
    refine Ends.region ?_
    refine S.val hA (R.move rfl) rfl ?_; clear hA a; intro a hA
    refine S.val hA (R.to (v := .int .i64 (chI V X (k + 1))) (R.assign rfl) (congrArg (Value.int .i64) hs9.symm)) rfl ?_; clear hA a; intro a hA
    refine S.done ?_
    refine Ends.inBlock (Ends.region ?_)
    refine S.val hA (R.addI rfl rfl (r := ((k : Int)) + 1) rfl (by omega)) rfl ?_; clear hA a; intro a hA
    refine S.val hA (R.move rfl) rfl ?_; clear hA a; intro a hA
    refine S.done ?_
    replace hA : St 35 [(0, _), (1, _), (5, _), (8, _), (9, _), (10, _)] a := hA.sub ((.cons rfl (.cons rfl (.cons rfl (.cons rfl (.cons rfl (.cons rfl .nil)))))))
    exact hNext ((k + 1)) _ _ ((by show n - (k + 1) < n - k; omega)) ⟨hA.sub ((.cons rfl (.cons rfl (.cons rfl (.cons rfl (.cons rfl (.cons rfl .nil))))))), hM, (by omega)⟩
   ·
    have hs9 : chI V X (k + 1) = chI V X k := by
     rw [chI]; exact if_neg hc2
    refine Ends.skip (Ends.inBlock (Ends.region ?_))
    refine S.val hA (R.addI rfl rfl (r := ((k : Int)) + 1) rfl (by omega)) rfl ?_; clear hA a; intro a hA
    refine S.val hA (R.move rfl) rfl ?_; clear hA a; intro a hA
    refine S.done ?_
    rw [← hs9] at hA
    exact hNext ((k + 1)) _ _ ((by show n - (k + 1) < n - k; omega)) ⟨hA.sub ((.cons rfl (.cons rfl (.cons rfl (.cons rfl (.cons rfl (.cons rfl .nil))))))), hM, (by omega)⟩
  ·
   refine Ends.region ?_
   refine S.val hA (R.move rfl) rfl ?_; clear hA a; intro a hA
   refine S.val hA (R.move rfl) rfl ?_; clear hA a; intro a hA
   refine S.val hA (R.indexAddr (q := k) sl68 rfl rfl (by omega) (by omega)) rfl ?_; clear hA a; intro a hA
   refine S.val hA (R.to (v := .bool (decide ((k : Int) ∈ X))) (R.load sz4 rfl (hM.cellB hqub (boo_get U k (by omega)))) (congrArg Value.bool hu)) rfl ?_; clear hA a; intro a hA
   refine S.val hA (R.notD rfl) rfl ?_; clear hA a; intro a hA
   refine S.val hA (R.move rfl) rfl ?_; clear hA a; intro a hA
   refine hA.split (d := 20) rfl ?_ ?_
   ·
    clear hA; intro hg3 hA
    refine S.valg (dj := 20) hA (by kernel_rfl) rfl (R.move rfl) rfl ?_; clear hA a; intro a hA
    refine S.valg (dj := 20) hA (by kernel_rfl) rfl (R.lss rfl rfl) rfl ?_; clear hA a; intro a hA
    refine S.valg (dj := 20) hA (by kernel_rfl) rfl (R.move rfl) rfl ?_; clear hA a; intro a hA
    refine hA.split (d := 23) rfl ?_ ?_
    ·
     clear hA; intro hg4 hA
     refine S.no (dj := 23) hA (by kernel_rfl) rfl rfl rfl ?_; clear hA a; intro a hA
     refine S.no (dj := 23) hA (by kernel_rfl) rfl rfl rfl ?_; clear hA a; intro a hA
     refine S.no (dj := 23) hA (by kernel_rfl) rfl rfl rfl ?_; clear hA a; intro a hA
     refine S.no (dj := 23) hA (by kernel_rfl) rfl rfl rfl ?_; clear hA a; intro a hA
     refine S.no (dj := 23) hA (by kernel_rfl) rfl rfl rfl ?_; clear hA a; intro a hA
     refine S.no (dj := 23) hA (by kernel_rfl) rfl rfl rfl ?_; clear hA a; intro a hA
     refine S.valg (dj := 20) hA (by kernel_rfl) rfl (R.pickT rfl rfl) rfl ?_; clear hA a; intro a hA
     refine S.val hA (R.pickT rfl rfl) rfl ?_; clear hA a; intro a hA
     refine S.done ?_
     replace hA : St 35 [(0, _), (1, _), (5, _), (6, _), (8, _), (9, _), (10, _), (31, _)] a := hA.sub ((.cons rfl (.cons rfl (.cons rfl (.cons rfl (.cons rfl (.cons rfl (.cons rfl (.cons rfl .nil)))))))))
     exact hJ _ _ ⟨hA.sub (.cons rfl (.cons rfl (.cons rfl (.cons rfl (.cons rfl (.cons rfl (.cons rfl (.cons (by first | rfl | exact congrArg (fun b => some (Value.bool b)) (by first | exact decide_eq_decide.2 (by omega) | exact or_bool (by omega) | exact and_bool (by omega) | (simp; done) | (simp [hg3, hg4]; done) | (have h80 := hg3; (try simp at h80); have h81 := hg4; (try simp at h81); simp [h80, h81]; done) | exact (decide_eq_false (fun h9 => hg3 h9.1)).symm | exact (decide_eq_false (fun h9 => hg4 h9.1)).symm)) .nil)))))))), hM⟩
    ·
     clear hA; intro hg4 hA
     refine S.valg (dj := 23) hA (by kernel_rfl) rfl (R.move rfl) rfl ?_; clear hA a; intro a hA
     refine S.valg (dj := 23) hA (by kernel_rfl) rfl (R.move rfl) rfl ?_; clear hA a; intro a hA
     refine S.valg (dj := 23) hA (by kernel_rfl) rfl (R.move rfl) rfl ?_; clear hA a; intro a hA
     refine S.valg (dj := 23) hA (by kernel_rfl) rfl (R.idxI hx (j := (chI V X k).toNat) sl22 rfl rfl (by omega) (rfl)) rfl ?_; clear hA a; intro a hA
     refine S.valg (dj := 23) hA (by kernel_rfl) rfl (R.loadI (hx.mem hM) sz3 rfl (by omega)) rfl ?_; clear hA a; intro a hA
     refine S.valg (dj := 23) hA (by kernel_rfl) rfl (R.lss rfl rfl) rfl ?_; clear hA a; intro a hA
     refine S.valg (dj := 20) hA (by kernel_rfl) rfl (R.pickF rfl rfl) rfl ?_; clear hA a; intro a hA
     refine S.val hA (R.pickT rfl rfl) rfl ?_; clear hA a; intro a hA
     refine S.done ?_
     replace hA : St 35 [(0, _), (1, _), (5, _), (6, _), (8, _), (9, _), (10, _), (31, _)] a := hA.sub ((.cons rfl (.cons rfl (.cons rfl (.cons rfl (.cons rfl (.cons rfl (.cons rfl (.cons rfl .nil)))))))))
     exact hJ _ _ ⟨hA.sub (.cons rfl (.cons rfl (.cons rfl (.cons rfl (.cons rfl (.cons rfl (.cons rfl (.cons (by first | rfl | exact congrArg (fun b => some (Value.bool b)) (by first | exact decide_eq_decide.2 (by omega) | exact or_bool (by omega) | exact and_bool (by omega) | (simp; done) | (simp [hg3, hg4]; done) | (have h80 := hg3; (try simp at h80); have h81 := hg4; (try simp at h81); simp [h80, h81]; done) | exact (decide_eq_false (fun h9 => hg3 h9.1)).symm | exact (decide_eq_false (fun h9 => hg4 h9.1)).symm)) .nil)))))))), hM⟩
   ·
    clear hA; intro hg3 hA
    refine S.no (dj := 20) hA (by kernel_rfl) rfl rfl rfl ?_; clear hA a; intro a hA
    refine S.no (dj := 20) hA (by kernel_rfl) rfl rfl rfl ?_; clear hA a; intro a hA
    refine S.no (dj := 20) hA (by kernel_rfl) rfl rfl rfl ?_; clear hA a; intro a hA
    refine S.noU (dj := 23) hA (by kernel_rfl) rfl rfl ?_; clear hA a; intro a hA
    refine S.noU (dj := 23) hA (by kernel_rfl) rfl rfl ?_; clear hA a; intro a hA
    refine S.noU (dj := 23) hA (by kernel_rfl) rfl rfl ?_; clear hA a; intro a hA
    refine S.noU (dj := 23) hA (by kernel_rfl) rfl rfl ?_; clear hA a; intro a hA
    refine S.noU (dj := 23) hA (by kernel_rfl) rfl rfl ?_; clear hA a; intro a hA
    refine S.noU (dj := 23) hA (by kernel_rfl) rfl rfl ?_; clear hA a; intro a hA
    refine S.no (dj := 20) hA (by kernel_rfl) rfl rfl rfl ?_; clear hA a; intro a hA
    refine S.val hA (R.pickF rfl rfl) rfl ?_; clear hA a; intro a hA
    refine S.done ?_
    replace hA : St 35 [(0, _), (1, _), (5, _), (6, _), (8, _), (9, _), (10, _), (31, _)] a := hA.sub ((.cons rfl (.cons rfl (.cons rfl (.cons rfl (.cons rfl (.cons rfl (.cons rfl (.cons rfl .nil)))))))))
    exact hJ _ _ ⟨hA.sub (.cons rfl (.cons rfl (.cons rfl (.cons rfl (.cons rfl (.cons rfl (.cons rfl (.cons (by first | rfl | exact congrArg (fun b => some (Value.bool b)) (by first | exact decide_eq_decide.2 (by omega) | exact or_bool (by omega) | exact and_bool (by omega) | (simp; done) | (simp [hg3]; done) | (have h80 := hg3; (try simp at h80); simp [h80]; done) | exact (decide_eq_false (fun h9 => hg3 h9.1)).symm)) .nil)))))))), hM⟩
 ·
  have hke : k = n := by omega
  refine Ends.exit rfl ?_
  replace hA : St 35 [(5, _)] a := hA.sub ((.cons rfl .nil))
  refine Ends.seq (Ends.region ?_)
  refine S.val hA (R.move rfl) rfl ?_; clear hA a; intro a hA
  refine S.val hA (R.assign rfl) rfl ?_; clear hA a; intro a hA
  refine S.done ?_
  refine Ends.ret1 Try.func64 Try.results64 hA rfl ?_
  exact ⟨by rw [hke], Mem.trans0 hbs hM.nilL⟩
set_option maxRecDepth 100000 in
set_option maxHeartbeats 400000 in
theorem rows10 (i : Ins) (ax3 : Option Addr) (cx3 : Nat) (ax4 : Option Addr) (cx4 : Nat) (ax5 : Option Addr) (cx5 : Nat) (hF : InF i) (hk1 : ¬ i.kind = 1) (w : World) (hx3 : IntSl w (.slice ax3 i.wt.length cx3) i.wt) (hx4 : IntSl w (.slice ax4 i.vl.length cx4) i.vl) (hx5 : RowsV w (.slice ax5 i.cost.length cx5) i.cost) :
  Calls Try.prog 47 #[.agg #[.int .i64 i.kind, .int .i64 i.n, .int .i64 i.cap, .slice ax3 i.wt.length cx3, .slice ax4 i.vl.length cx4, .slice ax5 i.cost.length cx5]] w fun e w' => ∃ a c, e = .returned (.slice a ((rwA i (i.n.toNat - frm i))).length c) ∧ IntSl w' (.slice a ((rwA i (i.n.toNat - frm i))).length c) ((rwA i (i.n.toNat - frm i))) ∧ Below w.heap.size w w' := by
 have hbs := Below.refl (B := w.heap.size) w
 have f1 := hF.n1
 have f3 := hF.n64
 have f4 := hF.n24 hk1
 have f7 := hF.cost
 rw [if_neg hk1] at f7
 have hrow := fun r h => rowLn hF hk1 (r := r) h
 have hfl := frm_le i
 have hin := rwA_inc (i := i) (by omega)
 have hrp : (List.replicate i.n.toNat false).length = i.n.toNat := List.length_replicate
 have hM := Mem.start w
 refine Calls.of_ends (vs := [.agg #[.int .i64 i.kind, .int .i64 i.n, .int .i64 i.cap, .slice ax3 i.wt.length cx3, .slice ax4 i.vl.length cx4, .slice ax5 i.cost.length cx5]]) Try.func47 rfl Try.ntmps47 rfl ?_
 intro a hA
 replace hA : St 49 [(0, _)] a := hA
 refine Ends.seq (Ends.region ?_)
 refine S.box hA hM rfl rfl ?_; clear hA hM a; intro b1 w1 hb2 hM a hA
 replace hM : Mem _ _ [pt b1 #[.int .i64 i.kind, .int .i64 i.n, .int .i64 i.cap, .slice ax3 i.wt.length cx3, .slice ax4 i.vl.length cx4, .slice ax5 i.cost.length cx5] 25] _ := hM
 refine S.val hA (R.assign rfl) rfl ?_; clear hA a; intro a hA
 refine S.done ?_
 refine Ends.seq (Ends.region ?_)
 refine S.val hA (R.fieldAddr (q := 1) fi25_1 rfl rfl rfl) rfl ?_; clear hA a; intro a hA
 refine S.val hA (R.load sz3 rfl (hM.cell (k := 0) rfl rfl)) rfl ?_; clear hA a; intro a hA
 refine S.make hA hM Try.underlying68 info4 rfl rfl rfl (by omega) (by show (1 : Int) * _ ≤ _; omega) (by omega) rfl ?_; clear hA hM a; intro b3 w2 hb4 hM a hA
 replace hM : Mem _ _ [pt b3 (madeCells #[.bool false] (i.n.toNat * 1)) 4, pt b1 #[.int .i64 i.kind, .int .i64 i.n, .int .i64 i.cap, .slice ax3 i.wt.length cx3, .slice ax4 i.vl.length cx4, .slice ax5 i.cost.length cx5] 25] _ := hM
 rw [Nat.mul_one, made_boo] at hM
 replace hM : Mem _ _ [pt b3 ((boo (List.replicate i.n.toNat false))) 4, pt b1 #[.int .i64 i.kind, .int .i64 i.n, .int .i64 i.cap, .slice ax3 i.wt.length cx3, .slice ax4 i.vl.length cx4, .slice ax5 i.cost.length cx5] 25] _ := hM
 refine S.val hA (R.assign rfl) rfl ?_; clear hA a; intro a hA
 refine S.done ?_
 replace hA : St 49 [(1, _), (3, _)] a := hA.sub ((.cons rfl (.cons rfl .nil)))
 refine Ends.seq (Ends.region ?_)
 refine S.val hA (R.assign rfl) rfl ?_; clear hA a; intro a hA
 refine S.done ?_
 refine Ends.seq (Ends.seq (Ends.region ?_))
 refine S.val hA (R.fieldAddr (q := 0) fi25_0 rfl rfl rfl) rfl ?_; clear hA a; intro a hA
 refine S.val hA (R.load sz3 rfl (hM.cell (k := 1) rfl rfl)) rfl ?_; clear hA a; intro a hA
 refine S.val hA (R.eql rfl rfl) rfl ?_; clear hA a; intro a hA
 refine S.done ?_
 refine Ends.ite hA rfl (fun hc5 => ?_) (fun hc5 => ?_)
 ·
  have hk3 := hc5
  have hfr : frm i = 1 := if_pos hk3
  refine Ends.seq (Ends.region ?_)
  refine S.val hA (R.move rfl) rfl ?_; clear hA a; intro a hA
  refine S.buildSl (cells := #[.int .i64 0]) hA hM Try.underlying22 info3 rfl rfl rfl rfl (by kernel_rfl) rfl ?_; clear hA hM a; intro b6 w3 hb7 hM a hA
  replace hM : Mem _ _ [pt b6 #[.int .i64 0] 3, pt b3 ((boo (List.replicate i.n.toNat false))) 4, pt b1 #[.int .i64 i.kind, .int .i64 i.n, .int .i64 i.cap, .slice ax3 i.wt.length cx3, .slice ax4 i.vl.length cx4, .slice ax5 i.cost.length cx5] 25] _ := hM
  replace hM := hM.ownNil 3 1
  replace hM : Mem _ _ [own 3 1 (.slice none ((([] : List Int)).length) 0) ((([] : List Int)).length) ((([] : List Int)).map (Value.int .i64)), pt b6 #[.int .i64 0] 3, pt b3 ((boo (List.replicate i.n.toNat false))) 4, pt b1 #[.int .i64 i.kind, .int .i64 i.n, .int .i64 i.cap, .slice ax3 i.wt.length cx3, .slice ax4 i.vl.length cx4, .slice ax5 i.cost.length cx5] 25] _ := hM
  refine S.append (k := 0) (k2 := 1) hA hM rfl rfl Try.underlying22 info3 rfl rfl rfl rfl rfl rfl rfl rfl rfl (by first | decide | (unfold maxLen; omega) | (show (_ + 1) * 8 ≤ (140737488355328 : Nat); omega) | omega) (by first | decide | (unfold maxLen; omega) | (show (_ + 1) * 8 ≤ (140737488355328 : Nat); omega) | omega) rfl ?_; clear hA hM a; intro a8 c9 w4 hM a hA
  replace hM : Mem _ _ [own 3 1 (.slice a8 (((([] : List Int)).length) + 1) c9) (((([] : List Int)).length) + 1) ((([] : List Int)).map (Value.int .i64) ++ [.int .i64 0]), pt b6 #[.int .i64 0] 3, pt b3 ((boo (List.replicate i.n.toNat false))) 4, pt b1 #[.int .i64 i.kind, .int .i64 i.n, .int .i64 i.cap, .slice ax3 i.wt.length cx3, .slice ax4 i.vl.length cx4, .slice ax5 i.cost.length cx5] 25] _ := hM
  have hl10 : ((([] : List Int)).length) + 1 = (([] : List Int) ++ [0]).length := by simp
  rw [hl10, show (([] : List Int)).map (Value.int .i64) ++ [.int .i64 0] = (([] : List Int) ++ [0]).map (Value.int .i64) by simp] at hM; rw [hl10] at hA
  clear hl10
  replace hM := hM.drop 1
  replace hM : Mem _ _ [own 3 1 (.slice a8 (((([] : List Int) ++ [0])).length) c9) (((([] : List Int) ++ [0])).length) (((([] : List Int) ++ [0])).map (Value.int .i64)), pt b3 ((boo (List.replicate i.n.toNat false))) 4, pt b1 #[.int .i64 i.kind, .int .i64 i.n, .int .i64 i.cap, .slice ax3 i.wt.length cx3, .slice ax4 i.vl.length cx4, .slice ax5 i.cost.length cx5] 25] _ := hM
  refine S.val hA (R.assign rfl) rfl ?_; clear hA a; intro a hA
  refine S.done ?_
  replace hA : St 49 [(1, _), (3, _), (4, _)] a := hA.sub ((.cons rfl (.cons rfl (.cons rfl .nil))))
  refine Ends.region ?_
  refine S.val hA (R.move rfl) rfl ?_; clear hA a; intro a hA
  refine S.val hA (R.indexAddr (q := 0) sl68 rfl rfl (by omega) (rfl)) rfl ?_; clear hA a; intro a hA
  refine S.store (k := 1) hA hM sz4 rfl rfl rfl rfl (boo_get _ _ (by omega)) ?_; clear hM
  intro w5 hM
  rw [boo_set] at hM
  replace hM : Mem _ _ [own 3 1 (.slice a8 (((([] : List Int) ++ [0])).length) c9) (((([] : List Int) ++ [0])).length) (((([] : List Int) ++ [0])).map (Value.int .i64)), pt b3 ((boo (((List.replicate i.n.toNat false)).set 0 true))) 4, pt b1 #[.int .i64 i.kind, .int .i64 i.n, .int .i64 i.cap, .slice ax3 i.wt.length cx3, .slice ax4 i.vl.length cx4, .slice ax5 i.cost.length cx5] 25] _ := hM
  refine S.done ?_
  refine Ends.seq (Ends.block ?_)
  replace hM := hM.front (k := 2) rfl
  replace hM := hM.front (k := 2) rfl
  replace hM := hM.front (k := 2) rfl
  refine Ends.loop (σ := Nat × List Int × Option Addr × Nat × List Bool) (fun (m, X, ya, yc, U) (a : Act) (wv : World) => St 49 [(1, .pointer (some ⟨b1, 0, none⟩)), (3, .slice (some ⟨b3, 0, none⟩) i.n.toNat i.n.toNat), (4, .slice ya X.length yc)] a ∧ Mem w nof [own 3 1 (.slice ya X.length yc) X.length (X.map (Value.int .i64)), pt b3 ((boo U)) 4, pt b1 #[.int .i64 i.kind, .int .i64 i.n, .int .i64 i.cap, .slice ax3 i.wt.length cx3, .slice ax4 i.vl.length cx4, .slice ax5 i.cost.length cx5] 25] wv ∧ (frm i + m ≤ i.n.toNat) ∧ (X = rwA i m) ∧ (usOK X i.n.toNat U)) (fun (m, X, ya, yc, U) => i.n.toNat - m) ((0, [0], a8, c9, (((List.replicate i.n.toNat false)).set 0 true))) ⟨hA.sub ((.cons rfl (.cons rfl (.cons rfl .nil)))), hM, (by omega), (if_pos hk3).symm, (us_zero (by omega))⟩ ?_
  clear hA hM a
  rintro ⟨m, X, ya, yc, U⟩ a w6 ⟨hA, hM, hm, hX, hus⟩ hNext
  refine Ends.seq (Ends.seq (Ends.region ?_))
  refine S.val hA (R.move rfl) rfl ?_; clear hA a; intro a hA
  refine S.val hA (R.lenS Try.underlying22 rfl rfl) rfl ?_; clear hA a; intro a hA
  refine S.val hA (R.fieldAddr (q := 1) fi25_1 rfl rfl rfl) rfl ?_; clear hA a; intro a hA
  refine S.val hA (R.load sz3 rfl (hM.cell (k := 2) rfl rfl)) rfl ?_; clear hA a; intro a hA
  refine S.val hA (R.lss rfl rfl) rfl ?_; clear hA a; intro a hA
  refine S.done ?_
  replace hA : St 49 [(1, _), (3, _), (4, _), (22, _)] a := hA.sub ((.cons rfl (.cons rfl (.cons rfl (.cons rfl .nil)))))
  refine Ends.ite hA rfl (fun hc11 => ?_) (fun hc11 => ?_)
  ·
   have hXl : X.length = frm i + m := by rw [hX, rwA_len]
   have hinc := hin m hm
   rw [← hX] at hinc
   have hUl := hus.1
   refine Ends.skip (Ends.block (Ends.seq (Ends.region ?_)))
   refine S.val hA (R.move rfl) rfl ?_; clear hA a; intro a hA
   refine S.val hA (R.lenS Try.underlying22 rfl rfl) rfl ?_; clear hA a; intro a hA
   refine S.val hA (R.assign rfl) rfl ?_; clear hA a; intro a hA
   refine S.done ?_
   refine Ends.seq (Ends.seq (Ends.region ?_))
   refine S.val hA (R.fieldAddr (q := 0) fi25_0 rfl rfl rfl) rfl ?_; clear hA a; intro a hA
   refine S.val hA (R.load sz3 rfl (hM.cell (k := 2) rfl rfl)) rfl ?_; clear hA a; intro a hA
   refine S.val hA (R.eql rfl rfl) rfl ?_; clear hA a; intro a hA
   refine S.done ?_
   replace hA : St 49 [(1, _), (3, _), (4, _), (5, _), (27, _)] a := hA.sub ((.cons rfl (.cons rfl (.cons rfl (.cons rfl (.cons rfl .nil))))))
   refine Ends.ite hA rfl (fun hc12 => ?_) (fun hc12 => ?_)
   ·
    have hlast : 0 ≤ X.getD (X.length - 1) 0 ∧ X.getD (X.length - 1) 0 < (i.n.toNat : Int) := hinc.1.2 _ (getD_mem (by omega))
    refine Ends.region ?_
    refine S.val hA (R.move rfl) rfl ?_; clear hA a; intro a hA
    refine S.val hA (R.move rfl) rfl ?_; clear hA a; intro a hA
    refine S.val hA (R.lenS Try.underlying22 rfl rfl) rfl ?_; clear hA a; intro a hA
    refine S.val hA (R.subI rfl rfl (r := ((X.length - 1 : Nat) : Int)) (by omega) (by omega)) rfl ?_; clear hA a; intro a hA
    refine S.val hA (R.idxI (hM.rsl (k := 0) rfl) (j := (X.length - 1)) sl22 rfl rfl (by omega) (by omega)) rfl ?_; clear hA a; intro a hA
    refine S.val hA (R.loadI (hM.rsl (k := 0) rfl) sz3 rfl (by omega)) rfl ?_; clear hA a; intro a hA
    refine S.val hA (R.assign rfl) rfl ?_; clear hA a; intro a hA
    refine S.done ?_
    replace hA : St 49 [(1, _), (3, _), (4, _), (5, _)] a := hA.sub ((.cons rfl (.cons rfl (.cons rfl (.cons rfl .nil)))))
    refine Ends.seq ?_
    have hrl := hrow (X.getD (X.length - 1) 0).toNat (by omega)
    obtain ⟨Rw, hRw0⟩ : ∃ Rw, Rw = i.cost.getD (X.getD (X.length - 1) 0).toNat [] := ⟨_, rfl⟩
    have hRw : rowOf i X = Rw := by rw [hRw0]; unfold rowOf; rw [if_pos hk3]
    obtain ⟨q, hq⟩ : ∃ q : Nat, chI Rw X i.n.toNat = (q : Int) := ⟨(chI Rw X i.n.toNat).toNat, by have := chI_pos Rw X i.n.toNat (free_col (by omega)); omega⟩
    have hqn : q < i.n.toNat := by have := chI_bd Rw X i.n.toNat; omega
    have hst : X ++ [(q : Int)] = rwA i (m + 1) := by rw [rwA, ← hX, hRw, hq]
    have hus2 := us_add hus (q := q) (by omega)
    refine Ends.region ?_
    refine S.val hA (R.fieldAddr (q := 5) fi25_5 rfl rfl rfl) rfl ?_; clear hA a; intro a hA
    refine S.val hA (R.load sz23 rfl (hM.cell (k := 2) rfl rfl)) rfl ?_; clear hA a; intro a hA
    refine S.val hA (R.move rfl) rfl ?_; clear hA a; intro a hA
    refine S.val hA (R.idxR hx5 (j := (X.getD ((X.length - 1)) 0).toNat) sl23 rfl rfl (by omega) (rfl)) rfl ?_; clear hA a; intro a hA
    obtain ⟨ra13, rc14, hrow15, hld16⟩ := hx5.atP (i := (X.getD ((X.length - 1)) 0).toNat) (by omega)
    refine S.val hA (hld16 _ _ _ _ _ _ hM sz22 rfl) rfl ?_; clear hA a; intro a hA
    refine S.val hA (R.move rfl) rfl ?_; clear hA a; intro a hA
    refine S.call hA (R.callF Try.func64 rfl rfl rfl) rfl ((by have h9 := cheap10 ra13 Rw rc14 b3 U X i.n.toNat (by rw [hRw0]; exact hrl) hus _ (by rw [hRw0]; exact hrow15.mem hM) (hM.block (k := 1) rfl); rw [hq, hRw0] at h9; exact h9)) ?_; clear hA a
    rintro e w7 ⟨rfl, hb⟩
    replace hM := hM.callB hb; clear hb
    refine ⟨.int .i64 ((q : Int)), rfl, fun a hA => ?_⟩
    refine S.val hA (R.assign rfl) rfl ?_; clear hA a; intro a hA
    refine S.done ?_
    replace hA : St 49 [(1, _), (3, _), (4, _), (6, _)] a := hA.sub ((.cons rfl (.cons rfl (.cons rfl (.cons rfl .nil)))))
    refine Ends.seq (Ends.region ?_)
    refine S.val hA (R.move rfl) rfl ?_; clear hA a; intro a hA
    refine S.val hA (R.move rfl) rfl ?_; clear hA a; intro a hA
    refine S.val hA (R.indexAddr (q := q) sl68 rfl rfl (by omega) (by omega)) rfl ?_; clear hA a; intro a hA
    refine S.store (k := 1) hA hM sz4 rfl rfl rfl rfl (boo_get _ _ (by omega)) ?_; clear hM
    intro w8 hM
    rw [boo_set] at hM
    replace hM : Mem _ _ [own 3 1 (.slice ya X.length yc) X.length (X.map (Value.int .i64)), pt b3 ((boo (U.set q true))) 4, pt b1 #[.int .i64 i.kind, .int .i64 i.n, .int .i64 i.cap, .slice ax3 i.wt.length cx3, .slice ax4 i.vl.length cx4, .slice ax5 i.cost.length cx5] 25] _ := hM
    refine S.done ?_
    refine Ends.region ?_
    refine S.val hA (R.move rfl) rfl ?_; clear hA a; intro a hA
    refine S.val hA (R.move rfl) rfl ?_; clear hA a; intro a hA
    refine S.buildSl (cells := #[.int .i64 ((q : Int))]) hA hM Try.underlying22 info3 rfl rfl rfl rfl (by kernel_rfl) rfl ?_; clear hA hM a; intro b17 w9 hb18 hM a hA
    replace hM : Mem _ _ [pt b17 #[.int .i64 ((q : Int))] 3, own 3 1 (.slice ya X.length yc) X.length (X.map (Value.int .i64)), pt b3 ((boo (U.set q true))) 4, pt b1 #[.int .i64 i.kind, .int .i64 i.n, .int .i64 i.cap, .slice ax3 i.wt.length cx3, .slice ax4 i.vl.length cx4, .slice ax5 i.cost.length cx5] 25] _ := hM
    refine S.append (k := 1) (k2 := 0) hA hM rfl rfl Try.underlying22 info3 rfl rfl rfl rfl rfl rfl rfl rfl rfl (by first | decide | (unfold maxLen; omega) | (show (_ + 1) * 8 ≤ (140737488355328 : Nat); omega) | omega) (by first | decide | (unfold maxLen; omega) | (show (_ + 1) * 8 ≤ (140737488355328 : Nat); omega) | omega) rfl ?_; clear hA hM a; intro a19 c20 w10 hM a hA
    replace hM : Mem _ _ [pt b17 #[.int .i64 ((q : Int))] 3, own 3 1 (.slice a19 (X.length + 1) c20) (X.length + 1) (X.map (Value.int .i64) ++ [.int .i64 ((q : Int))]), pt b3 ((boo (U.set q true))) 4, pt b1 #[.int .i64 i.kind, .int .i64 i.n, .int .i64 i.cap, .slice ax3 i.wt.length cx3, .slice ax4 i.vl.length cx4, .slice ax5 i.cost.length cx5] 25] _ := hM
    have hl21 : X.length + 1 = (X ++ [(q : Int)]).length := by simp
    rw [hl21, show X.map (Value.int .i64) ++ [.int .i64 ((q : Int))] = (X ++ [(q : Int)]).map (Value.int .i64) by simp] at hM; rw [hl21] at hA
    clear hl21
    replace hM := hM.drop 0
    replace hM : Mem _ _ [own 3 1 (.slice a19 (((X ++ [(q : Int)])).length) c20) (((X ++ [(q : Int)])).length) (((X ++ [(q : Int)])).map (Value.int .i64)), pt b3 ((boo (U.set q true))) 4, pt b1 #[.int .i64 i.kind, .int .i64 i.n, .int .i64 i.cap, .slice ax3 i.wt.length cx3, .slice ax4 i.vl.length cx4, .slice ax5 i.cost.length cx5] 25] _ := hM
    refine S.val hA (R.assign rfl) rfl ?_; clear hA a; intro a hA
    refine S.done ?_
    replace hA : St 49 [(1, _), (3, _), (4, _)] a := hA.sub ((.cons rfl (.cons rfl (.cons rfl .nil))))
    refine Ends.inBlock ?_
    replace hM := hM.front (k := 2) rfl
    replace hM := hM.front (k := 2) rfl
    replace hM := hM.front (k := 2) rfl
    replace hM : Mem _ _ [own 3 1 (.slice a19 (((X ++ [(q : Int)])).length) c20) (((X ++ [(q : Int)])).length) (((X ++ [(q : Int)])).map (Value.int .i64)), pt b3 ((boo (U.set q true))) 4, pt b1 #[.int .i64 i.kind, .int .i64 i.n, .int .i64 i.cap, .slice ax3 i.wt.length cx3, .slice ax4 i.vl.length cx4, .slice ax5 i.cost.length cx5] 25] _ := hM
    exact hNext ((m + 1, (X ++ [(q : Int)]), a19, c20, (U.set q true))) _ _ ((by show i.n.toNat - (m + 1) < i.n.toNat - m; omega)) ⟨hA.sub ((.cons rfl (.cons rfl (.cons rfl .nil)))), hM, (by omega), hst, hus2⟩
   · exact absurd hk3 hc12
  ·
   have hXl : X.length = frm i + m := by rw [hX, rwA_len]
   have hinc := hin m hm
   rw [← hX] at hinc
   have hUl := hus.1
   have hmn : m = i.n.toNat - frm i := by omega
   refine Ends.exit rfl ?_
   refine Ends.seq (Ends.region ?_)
   refine S.val hA (R.move rfl) rfl ?_; clear hA a; intro a hA
   refine S.val hA (R.assign rfl) rfl ?_; clear hA a; intro a hA
   refine S.done ?_
   replace hA : St 49 [(2, _)] a := hA.sub ((.cons rfl .nil))
   refine Ends.ret1 Try.func47 Try.results47 hA rfl ?_
   rw [hmn] at hX
   subst hX
   have hr := hM.rsl (k := 0) (X := rwA i (i.n.toNat - frm i)) rfl
   exact ⟨_, _, rfl, hr, Mem.trans0 hbs hM.nilL⟩
 ·
  have hk3 := hc5
  have hfr : frm i = 0 := if_neg hk3
  refine Ends.skip (Ends.seq (Ends.block ?_))
  replace hM := hM.ownNil 3 1
  replace hM : Mem _ _ [own 3 1 (.slice none ((([] : List Int)).length) 0) ((([] : List Int)).length) ((([] : List Int)).map (Value.int .i64)), pt b3 ((boo (List.replicate i.n.toNat false))) 4, pt b1 #[.int .i64 i.kind, .int .i64 i.n, .int .i64 i.cap, .slice ax3 i.wt.length cx3, .slice ax4 i.vl.length cx4, .slice ax5 i.cost.length cx5] 25] _ := hM
  replace hM := hM.front (k := 2) rfl
  replace hM := hM.front (k := 2) rfl
  replace hM := hM.front (k := 2) rfl
  refine Ends.loop (σ := Nat × List Int × Option Addr × Nat × List Bool) (fun (m, X, ya, yc, U) (a : Act) (wv : World) => St 49 [(1, .pointer (some ⟨b1, 0, none⟩)), (3, .slice (some ⟨b3, 0, none⟩) i.n.toNat i.n.toNat), (4, .slice ya X.length yc)] a ∧ Mem w nof [own 3 1 (.slice ya X.length yc) X.length (X.map (Value.int .i64)), pt b3 ((boo U)) 4, pt b1 #[.int .i64 i.kind, .int .i64 i.n, .int .i64 i.cap, .slice ax3 i.wt.length cx3, .slice ax4 i.vl.length cx4, .slice ax5 i.cost.length cx5] 25] wv ∧ (frm i + m ≤ i.n.toNat) ∧ (X = rwA i m) ∧ (usOK X i.n.toNat U)) (fun (m, X, ya, yc, U) => i.n.toNat - m) ((0, [], none, 0, (List.replicate i.n.toNat false))) ⟨hA.sub ((.cons rfl (.cons rfl (.cons rfl .nil)))), hM, (by omega), (if_neg hk3).symm, (us_nil _)⟩ ?_
  clear hA hM a
  rintro ⟨m, X, ya, yc, U⟩ a w11 ⟨hA, hM, hm, hX, hus⟩ hNext
  refine Ends.seq (Ends.seq (Ends.region ?_))
  refine S.val hA (R.move rfl) rfl ?_; clear hA a; intro a hA
  refine S.val hA (R.lenS Try.underlying22 rfl rfl) rfl ?_; clear hA a; intro a hA
  refine S.val hA (R.fieldAddr (q := 1) fi25_1 rfl rfl rfl) rfl ?_; clear hA a; intro a hA
  refine S.val hA (R.load sz3 rfl (hM.cell (k := 2) rfl rfl)) rfl ?_; clear hA a; intro a hA
  refine S.val hA (R.lss rfl rfl) rfl ?_; clear hA a; intro a hA
  refine S.done ?_
  replace hA : St 49 [(1, _), (3, _), (4, _), (22, _)] a := hA.sub ((.cons rfl (.cons rfl (.cons rfl (.cons rfl .nil)))))
  refine Ends.ite hA rfl (fun hc22 => ?_) (fun hc22 => ?_)
  ·
   have hXl : X.length = frm i + m := by rw [hX, rwA_len]
   have hinc := hin m hm
   rw [← hX] at hinc
   have hUl := hus.1
   refine Ends.skip (Ends.block (Ends.seq (Ends.region ?_)))
   refine S.val hA (R.move rfl) rfl ?_; clear hA a; intro a hA
   refine S.val hA (R.lenS Try.underlying22 rfl rfl) rfl ?_; clear hA a; intro a hA
   refine S.val hA (R.assign rfl) rfl ?_; clear hA a; intro a hA
   refine S.done ?_
   refine Ends.seq (Ends.seq (Ends.region ?_))
   refine S.val hA (R.fieldAddr (q := 0) fi25_0 rfl rfl rfl) rfl ?_; clear hA a; intro a hA
   refine S.val hA (R.load sz3 rfl (hM.cell (k := 2) rfl rfl)) rfl ?_; clear hA a; intro a hA
   refine S.val hA (R.eql rfl rfl) rfl ?_; clear hA a; intro a hA
   refine S.done ?_
   replace hA : St 49 [(1, _), (3, _), (4, _), (5, _), (27, _)] a := hA.sub ((.cons rfl (.cons rfl (.cons rfl (.cons rfl (.cons rfl .nil))))))
   refine Ends.ite hA rfl (fun hc23 => ?_) (fun hc23 => ?_)
   · exact absurd hc23 hk3
   ·
    refine Ends.skip (Ends.seq ?_)
    have hrl := hrow X.length (by omega)
    obtain ⟨Rw, hRw0⟩ : ∃ Rw, Rw = i.cost.getD X.length [] := ⟨_, rfl⟩
    have hRw : rowOf i X = Rw := by rw [hRw0]; unfold rowOf; rw [if_neg hk3]
    obtain ⟨q, hq⟩ : ∃ q : Nat, chI Rw X i.n.toNat = (q : Int) := ⟨(chI Rw X i.n.toNat).toNat, by have := chI_pos Rw X i.n.toNat (free_col (by omega)); omega⟩
    have hqn : q < i.n.toNat := by have := chI_bd Rw X i.n.toNat; omega
    have hst : X ++ [(q : Int)] = rwA i (m + 1) := by rw [rwA, ← hX, hRw, hq]
    have hus2 := us_add hus (q := q) (by omega)
    refine Ends.region ?_
    refine S.val hA (R.fieldAddr (q := 5) fi25_5 rfl rfl rfl) rfl ?_; clear hA a; intro a hA
    refine S.val hA (R.load sz23 rfl (hM.cell (k := 2) rfl rfl)) rfl ?_; clear hA a; intro a hA
    refine S.val hA (R.move rfl) rfl ?_; clear hA a; intro a hA
    refine S.val hA (R.idxR hx5 (j := X.length) sl23 rfl rfl (by omega) (rfl)) rfl ?_; clear hA a; intro a hA
    obtain ⟨ra24, rc25, hrow26, hld27⟩ := hx5.atP (i := X.length) (by omega)
    refine S.val hA (hld27 _ _ _ _ _ _ hM sz22 rfl) rfl ?_; clear hA a; intro a hA
    refine S.val hA (R.move rfl) rfl ?_; clear hA a; intro a hA
    refine S.call hA (R.callF Try.func64 rfl rfl rfl) rfl ((by have h9 := cheap10 ra24 Rw rc25 b3 U X i.n.toNat (by rw [hRw0]; exact hrl) hus _ (by rw [hRw0]; exact hrow26.mem hM) (hM.block (k := 1) rfl); rw [hq, hRw0] at h9; exact h9)) ?_; clear hA a
    rintro e w12 ⟨rfl, hb⟩
    replace hM := hM.callB hb; clear hb
    refine ⟨.int .i64 ((q : Int)), rfl, fun a hA => ?_⟩
    refine S.val hA (R.assign rfl) rfl ?_; clear hA a; intro a hA
    refine S.done ?_
    replace hA : St 49 [(1, _), (3, _), (4, _), (6, _)] a := hA.sub ((.cons rfl (.cons rfl (.cons rfl (.cons rfl .nil)))))
    refine Ends.seq (Ends.region ?_)
    refine S.val hA (R.move rfl) rfl ?_; clear hA a; intro a hA
    refine S.val hA (R.move rfl) rfl ?_; clear hA a; intro a hA
    refine S.val hA (R.indexAddr (q := q) sl68 rfl rfl (by omega) (by omega)) rfl ?_; clear hA a; intro a hA
    refine S.store (k := 1) hA hM sz4 rfl rfl rfl rfl (boo_get _ _ (by omega)) ?_; clear hM
    intro w13 hM
    rw [boo_set] at hM
    replace hM : Mem _ _ [own 3 1 (.slice ya X.length yc) X.length (X.map (Value.int .i64)), pt b3 ((boo (U.set q true))) 4, pt b1 #[.int .i64 i.kind, .int .i64 i.n, .int .i64 i.cap, .slice ax3 i.wt.length cx3, .slice ax4 i.vl.length cx4, .slice ax5 i.cost.length cx5] 25] _ := hM
    refine S.done ?_
    refine Ends.region ?_
    refine S.val hA (R.move rfl) rfl ?_; clear hA a; intro a hA
    refine S.val hA (R.move rfl) rfl ?_; clear hA a; intro a hA
    refine S.buildSl (cells := #[.int .i64 ((q : Int))]) hA hM Try.underlying22 info3 rfl rfl rfl rfl (by kernel_rfl) rfl ?_; clear hA hM a; intro b28 w14 hb29 hM a hA
    replace hM : Mem _ _ [pt b28 #[.int .i64 ((q : Int))] 3, own 3 1 (.slice ya X.length yc) X.length (X.map (Value.int .i64)), pt b3 ((boo (U.set q true))) 4, pt b1 #[.int .i64 i.kind, .int .i64 i.n, .int .i64 i.cap, .slice ax3 i.wt.length cx3, .slice ax4 i.vl.length cx4, .slice ax5 i.cost.length cx5] 25] _ := hM
    refine S.append (k := 1) (k2 := 0) hA hM rfl rfl Try.underlying22 info3 rfl rfl rfl rfl rfl rfl rfl rfl rfl (by first | decide | (unfold maxLen; omega) | (show (_ + 1) * 8 ≤ (140737488355328 : Nat); omega) | omega) (by first | decide | (unfold maxLen; omega) | (show (_ + 1) * 8 ≤ (140737488355328 : Nat); omega) | omega) rfl ?_; clear hA hM a; intro a30 c31 w15 hM a hA
    replace hM : Mem _ _ [pt b28 #[.int .i64 ((q : Int))] 3, own 3 1 (.slice a30 (X.length + 1) c31) (X.length + 1) (X.map (Value.int .i64) ++ [.int .i64 ((q : Int))]), pt b3 ((boo (U.set q true))) 4, pt b1 #[.int .i64 i.kind, .int .i64 i.n, .int .i64 i.cap, .slice ax3 i.wt.length cx3, .slice ax4 i.vl.length cx4, .slice ax5 i.cost.length cx5] 25] _ := hM
    have hl32 : X.length + 1 = (X ++ [(q : Int)]).length := by simp
    rw [hl32, show X.map (Value.int .i64) ++ [.int .i64 ((q : Int))] = (X ++ [(q : Int)]).map (Value.int .i64) by simp] at hM; rw [hl32] at hA
    clear hl32
    replace hM := hM.drop 0
    replace hM : Mem _ _ [own 3 1 (.slice a30 (((X ++ [(q : Int)])).length) c31) (((X ++ [(q : Int)])).length) (((X ++ [(q : Int)])).map (Value.int .i64)), pt b3 ((boo (U.set q true))) 4, pt b1 #[.int .i64 i.kind, .int .i64 i.n, .int .i64 i.cap, .slice ax3 i.wt.length cx3, .slice ax4 i.vl.length cx4, .slice ax5 i.cost.length cx5] 25] _ := hM
    refine S.val hA (R.assign rfl) rfl ?_; clear hA a; intro a hA
    refine S.done ?_
    replace hA : St 49 [(1, _), (3, _), (4, _)] a := hA.sub ((.cons rfl (.cons rfl (.cons rfl .nil))))
    refine Ends.inBlock ?_
    replace hM := hM.front (k := 2) rfl
    replace hM := hM.front (k := 2) rfl
    replace hM := hM.front (k := 2) rfl
    replace hM : Mem _ _ [own 3 1 (.slice a30 (((X ++ [(q : Int)])).length) c31) (((X ++ [(q : Int)])).length) (((X ++ [(q : Int)])).map (Value.int .i64)), pt b3 ((boo (U.set q true))) 4, pt b1 #[.int .i64 i.kind, .int .i64 i.n, .int .i64 i.cap, .slice ax3 i.wt.length cx3, .slice ax4 i.vl.length cx4, .slice ax5 i.cost.length cx5] 25] _ := hM
    exact hNext ((m + 1, (X ++ [(q : Int)]), a30, c31, (U.set q true))) _ _ ((by show i.n.toNat - (m + 1) < i.n.toNat - m; omega)) ⟨hA.sub ((.cons rfl (.cons rfl (.cons rfl .nil)))), hM, (by omega), hst, hus2⟩
  ·
   have hXl : X.length = frm i + m := by rw [hX, rwA_len]
   have hinc := hin m hm
   rw [← hX] at hinc
   have hUl := hus.1
   have hmn : m = i.n.toNat - frm i := by omega
   refine Ends.exit rfl ?_
   refine Ends.seq (Ends.region ?_)
   refine S.val hA (R.move rfl) rfl ?_; clear hA a; intro a hA
   refine S.val hA (R.assign rfl) rfl ?_; clear hA a; intro a hA
   refine S.done ?_
   replace hA : St 49 [(2, _)] a := hA.sub ((.cons rfl .nil))
   refine Ends.ret1 Try.func47 Try.results47 hA rfl ?_
   rw [hmn] at hX
   subst hX
   have hr := hM.rsl (k := 0) (X := rwA i (i.n.toNat - frm i)) rfl
   exact ⟨_, _, rfl, hr, Mem.trans0 hbs hM.nilL⟩
set_option maxRecDepth 100000 in
set_option maxHeartbeats 400000 in
theorem first10 (i : Ins) (ax3 : Option Addr) (cx3 : Nat) (ax4 : Option Addr) (cx4 : Nat) (ax5 : Option Addr) (cx5 : Nat) (hsm : i.wt.length ≤ 1000000 ∧ i.vl.length ≤ 1000000) (w : World) (hx3 : IntSl w (.slice ax3 i.wt.length cx3) i.wt) (hx4 : IntSl w (.slice ax4 i.vl.length cx4) i.vl) (hx5 : RowsV w (.slice ax5 i.cost.length cx5) i.cost) :
  Calls Try.prog 24 #[.agg #[.int .i64 i.kind, .int .i64 i.n, .int .i64 i.cap, .slice ax3 i.wt.length cx3, .slice ax4 i.vl.length cx4, .slice ax5 i.cost.length cx5]] w fun e w' => ∃ a c, e = .returned (.tuple #[.slice a ((frI i)).length c, .int .i64 (chk i)]) ∧ IntSl w' (.slice a ((frI i)).length c) ((frI i)) ∧ Below w.heap.size w w' := by
 have hbs := Below.refl (B := w.heap.size) w
 have hM := Mem.start w
 refine Calls.of_ends (vs := [.agg #[.int .i64 i.kind, .int .i64 i.n, .int .i64 i.cap, .slice ax3 i.wt.length cx3, .slice ax4 i.vl.length cx4, .slice ax5 i.cost.length cx5]]) Try.func24 rfl Try.ntmps24 rfl ?_
 intro a hA
 replace hA : St 19 [(0, _)] a := hA
 refine Ends.seq (Ends.region ?_)
 refine S.box hA hM rfl rfl ?_; clear hA hM a; intro b1 w1 hb2 hM a hA
 replace hM : Mem _ _ [pt b1 #[.int .i64 i.kind, .int .i64 i.n, .int .i64 i.cap, .slice ax3 i.wt.length cx3, .slice ax4 i.vl.length cx4, .slice ax5 i.cost.length cx5] 25] _ := hM
 refine S.val hA (R.assign rfl) rfl ?_; clear hA a; intro a hA
 refine S.val hA (R.assign rfl) rfl ?_; clear hA a; intro a hA
 refine S.done ?_
 refine Ends.seq (Ends.region ?_)
 refine S.val hA (R.loadA sz25 rfl (hM.range (k := 0) rfl) rfl) rfl ?_; clear hA a; intro a hA
 refine S.call hA (R.callF Try.func35 rfl rfl rfl) rfl (check05 i ax3 cx3 ax4 cx4 ax5 cx5 hsm _ (hx3.mem hM) (hx4.mem hM) (hx5.mem hM)) ?_; clear hA a
 rintro e w2 ⟨rfl, hb⟩
 replace hM := hM.callB hb; clear hb
 refine ⟨.int .i64 (chk i), rfl, fun a hA => ?_⟩
 refine S.val hA (R.assign rfl) rfl ?_; clear hA a; intro a hA
 refine S.done ?_
 replace hA : St 19 [(1, _), (4, _)] a := hA.sub ((.cons rfl (.cons rfl .nil)))
 refine Ends.seq (Ends.block (Ends.seq (Ends.region ?_)))
 refine S.val hA (R.move rfl) rfl ?_; clear hA a; intro a hA
 refine S.val hA (R.neq rfl rfl) rfl ?_; clear hA a; intro a hA
 refine S.val hA (R.assign rfl) rfl ?_; clear hA a; intro a hA
 refine S.done ?_
 refine Ends.ite hA rfl (fun hc3 => ?_) (fun hc3 => ?_)
 ·
  have hz : ¬ chk i = 0 := hc3
  refine Ends.seq (Ends.region ?_)
  refine S.val hA (R.move rfl) rfl ?_; clear hA a; intro a hA
  refine S.val hA (R.assign rfl) rfl ?_; clear hA a; intro a hA
  refine S.val hA (R.assign rfl) rfl ?_; clear hA a; intro a hA
  refine S.done ?_
  replace hA : St 19 [(1, _), (2, _), (3, _)] a := hA.sub ((.cons rfl (.cons rfl (.cons rfl .nil))))
  refine Ends.ret2 Try.func24 Try.results24 hA rfl rfl ?_
  exact ⟨none, 0, by rw [frI_no hz]; rfl, by rw [frI_no hz]; exact IntSl.nil _, Mem.trans0 hbs hM.nilL⟩
 ·
  have hz : chk i = 0 := Decidable.not_not.1 hc3
  have hF := chk_inF hz
  refine Ends.seq (Ends.region ?_)
  refine S.val hA (R.fieldAddr (q := 0) fi25_0 rfl rfl rfl) rfl ?_; clear hA a; intro a hA
  refine S.val hA (R.load sz3 rfl (hM.cell (k := 0) rfl rfl)) rfl ?_; clear hA a; intro a hA
  refine S.val hA (R.eql rfl rfl) rfl ?_; clear hA a; intro a hA
  refine S.val hA (R.assign rfl) rfl ?_; clear hA a; intro a hA
  refine S.done ?_
  replace hA : St 19 [(1, _), (11, _)] a := hA.sub ((.cons rfl (.cons rfl .nil)))
  refine Ends.ite hA rfl (fun hc4 => ?_) (fun hc4 => ?_)
  ·
   have hk1 := hc4
   refine Ends.seq (Ends.region ?_)
   refine S.val hA (R.loadA sz25 rfl (hM.range (k := 0) rfl) rfl) rfl ?_; clear hA a; intro a hA
   refine S.call hA (R.callF Try.func46 rfl rfl rfl) rfl (knap10 i ax3 cx3 ax4 cx4 ax5 cx5 hF hk1 _ (hx3.mem hM) (hx4.mem hM) (hx5.mem hM)) ?_; clear hA a
   rintro e w3 ⟨ra5, rc6, rfl, rh7, hb⟩
   replace hM := hM.callB hb; clear hb
   have hbx8 := hM.block (k := 0) rfl
   have hbs := hbs.trans (hM.below.mono hbs.size)
   have hx3 := hx3.mem hM
   have hx4 := hx4.mem hM
   have hx5 := hx5.mem hM
   replace hM := Mem.start w3
   refine ⟨.slice ra5 (((knS i)).length) rc6, rfl, fun a hA => ?_⟩
   refine S.val hA (R.assign rfl) rfl ?_; clear hA a; intro a hA
   refine S.val hA (R.assign rfl) rfl ?_; clear hA a; intro a hA
   refine S.done ?_
   refine Ends.ret2 Try.func24 Try.results24 hA rfl rfl ?_
   rw [show frI i = (knS i) from frI_kn hz hk1, hz]
   exact ⟨_, _, rfl, rh7.mem hM, Mem.trans0 hbs hM.nilL⟩
  ·
   have hk1 := hc4
   refine Ends.skip (Ends.inBlock (Ends.seq (Ends.region ?_)))
   refine S.val hA (R.loadA sz25 rfl (hM.range (k := 0) rfl) rfl) rfl ?_; clear hA a; intro a hA
   refine S.call hA (R.callF Try.func47 rfl rfl rfl) rfl (rows10 i ax3 cx3 ax4 cx4 ax5 cx5 hF hk1 _ (hx3.mem hM) (hx4.mem hM) (hx5.mem hM)) ?_; clear hA a
   rintro e w4 ⟨ra9, rc10, rfl, rh11, hb⟩
   replace hM := hM.callB hb; clear hb
   have hbx12 := hM.block (k := 0) rfl
   have hbs := hbs.trans (hM.below.mono hbs.size)
   have hx3 := hx3.mem hM
   have hx4 := hx4.mem hM
   have hx5 := hx5.mem hM
   replace hM := Mem.start w4
   refine ⟨.slice ra9 (((rwA i (i.n.toNat - frm i))).length) rc10, rfl, fun a hA => ?_⟩
   refine S.val hA (R.assign rfl) rfl ?_; clear hA a; intro a hA
   refine S.val hA (R.assign rfl) rfl ?_; clear hA a; intro a hA
   refine S.done ?_
   replace hA : St 19 [(2, _), (3, _)] a := hA.sub ((.cons rfl (.cons rfl .nil)))
   refine Ends.ret2 Try.func24 Try.results24 hA rfl rfl ?_
   rw [show frI i = (rwA i (i.n.toNat - frm i)) from frI_rw hz hk1, hz]
   exact ⟨_, _, rfl, rh11.mem hM, Mem.trans0 hbs hM.nilL⟩
end Go.Proofs.Ytnikajkklocncaa
namespace Go.Proofs.Ytnikajkklocncaa
theorem ext_getD {X Y : List Int} (hl : X.length = Y.length) (h : ∀ t, t < X.length → X.getD t 0 = Y.getD t 0) : X = Y :=
  List.ext_getElem hl fun t h1 h2 => by
    have := h t h1
    simpa [List.getD, h1, h2] using this
theorem getD_set (X : List Int) (i t : Nat) (v : Int) (hi : i < X.length) : (X.set i v).getD t 0 = if t = i then v else X.getD t 0 := by
  rw [List.getD_eq_getElem?_getD, List.getElem?_set]
  by_cases e : i = t
  · subst e; simp [hi]
  · rw [if_neg e, if_neg (fun h => e h.symm), List.getD_eq_getElem?_getD]
def swp (X : List Int) (i j : Nat) : List Int := (X.set i (X.getD j 0)).set j (X.getD i 0)
theorem swp_get {X : List Int} {i j t : Nat} (hi : i < X.length) (hj : j < X.length) : (swp X i j).getD t 0 = if t = j then X.getD i 0 else if t = i then X.getD j 0 else X.getD t 0 := by
  unfold swp
  rw [getD_set _ _ _ _ (by rw [List.length_set]; exact hj), getD_set _ _ _ _ hi]
def rvIq (X : List Int) (o m i : Nat) (t : Nat) : Int := if o ≤ t ∧ t < o + m ∧ (t < o + i ∨ o + m ≤ t + i) then X.getD (2 * o + m - 1 - t) 0 else X.getD t 0
theorem rvIq_zero (X : List Int) (o m t : Nat) : X.getD t 0 = rvIq X o m 0 t := by
  unfold rvIq; rw [if_neg (by omega)]
theorem rvIq_succ {X Z : List Int} {o m i : Nat} (hl : Z.length = X.length) (hom : o + m ≤ X.length) (hi : i + i + 1 < m) (h : ∀ t, Z.getD t 0 = rvIq X o m i t) (t : Nat) : (swp Z (o + i) (o + (m - 1 - i))).getD t 0 = rvIq X o m (i + 1) t := by
  rw [swp_get (by omega) (by omega), h, h, h]
  unfold rvIq
  by_cases e1 : t = o + (m - 1 - i)
  · rw [if_pos e1, if_neg (by omega), if_pos (by omega)]; congr 1; omega
  · rw [if_neg e1]
    by_cases e2 : t = o + i
    · rw [if_pos e2, if_neg (by omega), if_pos (by omega)]; congr 1; omega
    · rw [if_neg e2]
      by_cases e3 : o ≤ t ∧ t < o + m ∧ (t < o + i ∨ o + m ≤ t + i)
      · rw [if_pos e3, if_pos (by omega)]
      · rw [if_neg e3, if_neg (by omega)]
def revAt (X : List Int) (o m : Nat) : List Int := X.take o ++ ((X.drop o).take m).reverse ++ X.drop (o + m)
theorem revAt_len {X : List Int} {o m : Nat} (h : o + m ≤ X.length) : (revAt X o m).length = X.length := by
  simp only [revAt, List.length_append, List.length_take, List.length_reverse, List.length_drop]; omega
theorem rvIq_end {X Z : List Int} {o m i : Nat} (hl : Z.length = X.length) (hom : o + m ≤ X.length) (hi : ¬ i + i + 1 < m) (h : ∀ t, Z.getD t 0 = rvIq X o m i t) : Z = revAt X o m := by
  refine ext_getD (by rw [hl, revAt_len hom]) fun t ht => ?_
  rw [h]
  unfold rvIq revAt
  rw [hl] at ht
  simp only [List.getD_eq_getElem?_getD]
  have l1 : (X.take o).length = o := by rw [List.length_take]; omega
  have l2 : ((X.drop o).take m).length = m := by rw [List.length_take, List.length_drop]; omega
  by_cases c1 : t < o
  · rw [if_neg (by omega), List.append_assoc, List.getElem?_append_left (by omega), List.getElem?_take, if_pos c1]
  · by_cases c2 : t < o + m
    · have hv : (if o ≤ t ∧ t < o + m ∧ (t < o + i ∨ o + m ≤ t + i) then X[2 * o + m - 1 - t]?.getD 0 else X[t]?.getD 0) = X[2 * o + m - 1 - t]?.getD 0 := by
        split
        · rfl
        · congr 2; omega
      rw [hv, List.append_assoc, List.getElem?_append_right (by omega), l1, List.getElem?_append_left (by rw [List.length_reverse]; omega), List.getElem?_reverse (by omega), l2, List.getElem?_take, if_pos (by omega), List.getElem?_drop]
      congr 2; omega
    · rw [if_neg (by omega), List.getElem?_append_right (by rw [List.length_append, List.length_reverse]; omega), List.getElem?_drop, List.length_append, List.length_reverse, l1, l2]
      congr 2; omega
end Go.Proofs.Ytnikajkklocncaa
namespace Go.Proofs.Ytnikajkklocncaa
open Go.RowKit
set_option maxRecDepth 100000 in
set_option maxHeartbeats 400000 in
theorem clone09 (ax : Option Addr) (X : List Int) (cx : Nat) (hX : X.length ≤ 1000) (w : World) (hx : IntSl w (.slice ax X.length cx) X) :
  Calls Try.prog 49 #[.slice ax X.length cx] w fun e w' => ∃ a c, e = .returned (.slice a X.length c) ∧ Mem w nof [own 3 1 (.slice a X.length c) X.length (X.map (Value.int .i64))] w' := by
 have hbs := Below.refl (B := w.heap.size) w
 have hM := Mem.start w
 refine Calls.of_ends (vs := [.slice ax X.length cx]) Try.func49 rfl Try.ntmps49 rfl ?_
 intro a hA
 replace hA : St 8 [(0, _)] a := hA
 refine Ends.seq (Ends.region ?_)
 refine S.val hA (R.assign rfl) rfl ?_; clear hA a; intro a hA
 refine S.done ?_
 replace hA : St 8 [(0, _)] a := hA.sub ((.cons rfl .nil))
 refine Ends.seq (Ends.seq (Ends.region ?_))
 refine S.val hA (R.move rfl) rfl ?_; clear hA a; intro a hA
 refine S.val hA (R.eqlNilS Try.underlying22 rfl rfl) rfl ?_; clear hA a; intro a hA
 refine S.done ?_
 replace hA : St 8 [(0, _), (4, _)] a := hA.sub ((.cons rfl (.cons rfl .nil)))
 refine Ends.iteB hA rfl (fun hc1 => ?_) (fun hc1 => ?_)
 ·
  refine Ends.seq (Ends.region ?_)
  refine S.val hA (R.assign rfl) rfl ?_; clear hA a; intro a hA
  refine S.done ?_
  replace hA : St 8 [(0, _), (2, _)] a := hA.sub ((.cons rfl (.cons rfl .nil)))
  refine Ends.ret1 Try.func49 Try.results49 hA rfl ?_
  have hX0 : X = [] := by obtain ⟨a9, c9, he9, h91, h92, h93, h94⟩ := hx; have hc0 := hc1; cases ax with | some p => cases hc0 | none => (cases he9; exact List.length_eq_zero_iff.1 (by have := h93 rfl; omega))
  subst hX0
  exact ⟨none, 0, rfl, hM.ownNil 3 1⟩
 ·
  refine Ends.skip (Ends.seq (Ends.region ?_))
  refine S.buildSl0 hA hM Try.underlying22 info3 rfl ?_; clear hA hM a; intro b2 w1 hb3 hM a hA
  replace hM := hM.ownPt (cap := 0) (n := 0) (sz := 1) (xs := []) rfl (Nat.zero_le _) (Nat.le_refl _) rfl
  replace hM : Mem _ _ [own 3 1 (.slice ((some ⟨b2, 0, none⟩)) 0 0) 0 ((([] : List Int)).map (Value.int .i64))] _ := hM
  refine S.val hA (R.move rfl) rfl ?_; clear hA a; intro a hA
  refine S.appendI (k := 0) hA hM rfl (hx.mem hM) Try.underlying22 info3 rfl rfl rfl rfl rfl rfl (by first | (unfold maxLen; omega) | (show (0 + _) * 8 ≤ (140737488355328 : Nat); omega)) (by first | (unfold maxLen; omega) | (show (0 + _) * 8 ≤ (140737488355328 : Nat); omega)) rfl ?_; clear hA hM a; intro a4 c5 w2 hM a hA
  have hl6 : 0 + X.length = X.length := by first | (simp; done) | simp only [List.length_append]
  rw [hl6, show (([] : List Int)).map (Value.int .i64) ++ X.map (Value.int .i64) = X.map (Value.int .i64) by simp] at hM; rw [hl6] at hA; clear hl6
  replace hM : Mem _ _ [own 3 1 (.slice a4 X.length c5) X.length (X.map (Value.int .i64))] _ := hM
  refine S.val hA (R.assign rfl) rfl ?_; clear hA a; intro a hA
  refine S.done ?_
  replace hA : St 8 [(2, _)] a := hA.sub ((.cons rfl .nil))
  refine Ends.ret1 Try.func49 Try.results49 hA rfl ?_
  exact ⟨_, _, rfl, hM⟩
set_option maxRecDepth 100000 in
set_option maxHeartbeats 400000 in
theorem rev09 (g o m cap cc : Nat) (X : List Int) (hom : o + m ≤ X.length) (hX : X.length ≤ 1000) (w : World) (hM : Mem w (feet [own 3 1 (.slice ((some ⟨g, 0, none⟩)) X.length cap) X.length (X.map (Value.int .i64))]) [own 3 1 (.slice ((some ⟨g, 0, none⟩)) X.length cap) X.length (X.map (Value.int .i64))] w) :
  Calls Try.prog 73 #[.slice ((some ⟨g, o, none⟩)) m cc] w fun e w' => e = .returned (.tuple #[]) ∧ Mem w (feet [own 3 1 (.slice ((some ⟨g, 0, none⟩)) X.length cap) X.length (X.map (Value.int .i64))]) [own 3 1 (.slice ((some ⟨g, 0, none⟩)) X.length cap) X.length (((revAt X o m)).map (Value.int .i64))] w' := by
 have hbs := Below.refl (B := w.heap.size) w
 refine Calls.of_ends (vs := [.slice ((some ⟨g, o, none⟩)) m cc]) Try.func73 rfl Try.ntmps73 rfl ?_
 intro a hA
 replace hA : St 28 [(0, _)] a := hA
 refine Ends.seq (Ends.region ?_)
 refine S.val hA (R.move rfl) rfl ?_; clear hA a; intro a hA
 refine S.val hA (R.lenS Try.underlying22 rfl rfl) rfl ?_; clear hA a; intro a hA
 refine S.val hA (R.subI rfl rfl (r := ((m : Int)) - 1) rfl (by omega)) rfl ?_; clear hA a; intro a hA
 refine S.val hA (R.assign rfl) rfl ?_; clear hA a; intro a hA
 refine S.val hA (R.assign rfl) rfl ?_; clear hA a; intro a hA
 refine S.done ?_
 replace hA : St 28 [(0, _), (2, _), (3, _)] a := hA.sub ((.cons rfl (.cons rfl (.cons rfl .nil))))
 refine Ends.block ?_
 rw [show (m : Int) - 1 = (m : Int) - 1 - ((0 : Nat) : Int) by omega] at hA
 refine Ends.loop (σ := Nat × List Int) (fun (i, Z) (a : Act) (wv : World) => St 28 [(0, .slice ((some ⟨g, o, none⟩)) m cc), (2, .int .i64 ((i : Int))), (3, .int .i64 (((m : Int) - 1 - (i : Int))))] a ∧ Mem w (feet [own 3 1 (.slice ((some ⟨g, 0, none⟩)) X.length cap) X.length (X.map (Value.int .i64))]) [own 3 1 (.slice ((some ⟨g, 0, none⟩)) X.length cap) X.length (Z.map (Value.int .i64))] wv ∧ (Z.length = X.length) ∧ (i ≤ m) ∧ (∀ t, Z.getD t 0 = rvIq X o m i t)) (fun (i, Z) => m - i) ((0, X)) ⟨hA.sub ((.cons rfl (.cons rfl (.cons rfl .nil)))), hM, rfl, (Nat.zero_le _), (rvIq_zero X o m)⟩ ?_
 clear hA hM a
 rintro ⟨i, Z⟩ a w1 ⟨hA, hM, hZl, hi, hZ⟩ hNext
 refine Ends.seq (Ends.seq (Ends.region ?_))
 refine S.val hA (R.move rfl) rfl ?_; clear hA a; intro a hA
 refine S.val hA (R.move rfl) rfl ?_; clear hA a; intro a hA
 refine S.val hA (R.lss rfl rfl) rfl ?_; clear hA a; intro a hA
 refine S.done ?_
 replace hA : St 28 [(0, _), (2, _), (3, _), (9, _)] a := hA.sub ((.cons rfl (.cons rfl (.cons rfl (.cons rfl .nil)))))
 refine Ends.ite hA rfl (fun hc1 => ?_) (fun hc1 => ?_)
 ·
  refine Ends.skip (Ends.seq (Ends.block ?_))
  refine Ends.drawn (Mem w (feet [own 3 1 (.slice ((some ⟨g, 0, none⟩)) X.length cap) X.length (X.map (Value.int .i64))]) [own 3 1 (.slice ((some ⟨g, 0, none⟩)) X.length cap) X.length (Z.map (Value.int .i64))]) (.cons (0, true) (.cons (1, true) (.cons (2, true) (.cons (3, true) (.cons (4, true) (.cons (5, true) (.cons (6, true) (.cons (7, true) (.cons (8, true) (.cons (9, true) (.cons (10, true) (.cons (11, true) (.cons (12, true) (.cons (13, false) (.cons (14, true) (.cons (15, false) .nil)))))))))))))))) 13 mixed (by kernel_rfl) (by kernel_rfl) (by kernel_rfl) hM.drew ?_
  replace hM := hM.drew
  refine D.valF hA rfl (fun _ => R.move rfl) rfl ?_; clear hA a; intro a hA
  refine D.valF hA rfl (fun _ => R.move rfl) rfl ?_; clear hA a; intro a hA
  refine D.valF hA rfl (fun _ => R.move rfl) rfl ?_; clear hA a; intro a hA
  refine D.valF hA rfl (fun _ => R.move rfl) rfl ?_; clear hA a; intro a hA
  refine D.valF hA rfl (fun _ => R.move rfl) rfl ?_; clear hA a; intro a hA
  refine D.valF hA rfl (fun _ => R.move rfl) rfl ?_; clear hA a; intro a hA
  refine D.valF hA rfl (fun _ => R.indexAddr (q := o + (m - 1 - i)) sl22 rfl rfl (by omega) (by omega)) rfl ?_; clear hA a; intro a hA
  refine D.val hA rfl (by kernel_rfl) (fun _ hM => R.load sz3 rfl (hM.ownCell (k := 0) rfl (mapi_get _ _ (by omega)))) rfl ?_; clear hA a; intro a hA
  refine D.valF hA rfl (fun _ => R.move rfl) rfl ?_; clear hA a; intro a hA
  refine D.valF hA rfl (fun _ => R.move rfl) rfl ?_; clear hA a; intro a hA
  refine D.valF hA rfl (fun _ => R.indexAddr (q := o + i) sl22 rfl rfl (by omega) (by omega)) rfl ?_; clear hA a; intro a hA
  refine D.val hA rfl (by kernel_rfl) (fun _ hM => R.load sz3 rfl (hM.ownCell (k := 0) rfl (mapi_get _ _ (by omega)))) rfl ?_; clear hA a; intro a hA
  refine D.valF hA rfl (fun _ => R.indexAddr (q := o + i) sl22 rfl rfl (by omega) (by omega)) rfl ?_; clear hA a; intro a hA
  refine D.storeO (k := 0) hA hM rfl sz3 rfl rfl rfl rfl (mapi_get Z (o + i) (by first | omega | (simp only [List.length_set]; omega) | (simp; done))) ?_; clear hM; intro w2 hM; rw [mapi_set] at hM
  refine ⟨fun _ hne => absurd rfl hne, ?_⟩
  replace hM : Mem _ _ [own 3 1 (.slice ((some ⟨g, 0, none⟩)) X.length cap) X.length (((Z.set (o + i) (Z.getD (o + (m - 1 - i)) 0))).map (Value.int .i64))] _ := hM
  refine D.valF hA rfl (fun _ => R.indexAddr (q := o + (m - 1 - i)) sl22 rfl rfl (by omega) (by omega)) rfl ?_; clear hA a; intro a hA
  refine D.storeO (k := 0) hA hM rfl sz3 rfl rfl rfl rfl (mapi_get ((Z.set (o + i) (Z.getD (o + (m - 1 - i)) 0))) (o + (m - 1 - i)) (by first | omega | (simp only [List.length_set]; omega) | (simp; done))) ?_; clear hM; intro w3 hM; rw [mapi_set] at hM
  refine ⟨fun hb0 => absurd hb0 (by decide), ?_⟩
  replace hM : Mem _ _ [own 3 1 (.slice ((some ⟨g, 0, none⟩)) X.length cap) X.length ((((Z.set (o + i) (Z.getD (o + (m - 1 - i)) 0)).set (o + (m - 1 - i)) (Z.getD (o + i) 0))).map (Value.int .i64))] _ := hM
  refine D.done ?_
  replace hA : St 28 [(0, _), (2, _), (3, _)] a := hA.sub ((.cons rfl (.cons rfl (.cons rfl .nil))))
  refine Ends.inBlock (Ends.region ?_)
  refine S.val hA (R.move rfl) rfl ?_; clear hA a; intro a hA
  refine S.val hA (R.addI rfl rfl (r := ((i : Int)) + 1) rfl (by omega)) rfl ?_; clear hA a; intro a hA
  refine S.val hA (R.move rfl) rfl ?_; clear hA a; intro a hA
  refine S.val hA (R.subI rfl rfl (r := (((m : Int) - 1 - (i : Int))) - 1) rfl (by omega)) rfl ?_; clear hA a; intro a hA
  refine S.val hA (R.assign rfl) rfl ?_; clear hA a; intro a hA
  refine S.val hA (R.assign rfl) rfl ?_; clear hA a; intro a hA
  refine S.done ?_
  rw [show (i : Int) + 1 = ((i + 1 : Nat) : Int) by omega, show (m : Int) - 1 - (i : Int) - 1 = (m : Int) - 1 - ((i + 1 : Nat) : Int) by omega] at hA
  replace hA : St 28 [(0, _), (2, _), (3, _)] a := hA.sub ((.cons rfl (.cons rfl (.cons rfl .nil))))
  exact hNext ((i + 1, ((Z.set (o + i) (Z.getD (o + (m - 1 - i)) 0)).set (o + (m - 1 - i)) (Z.getD (o + i) 0)))) _ _ ((by show m - (i + 1) < m - i; omega)) ⟨hA.sub ((.cons rfl (.cons rfl (.cons rfl .nil)))), hM, (by simp only [List.length_set]; exact hZl), (by omega), (fun t => by rw [← rvIq_succ hZl hom (by omega) hZ t]; rfl)⟩
 ·
  refine Ends.exit rfl ?_
  replace hA : St 28 [] a := hA.sub (.nil)
  refine Ends.end0 Try.func73 Try.results73 hA ?_
  have he := rvIq_end hZl hom (by omega) hZ
  rw [he] at hM
  exact ⟨rfl, hM⟩
end Go.Proofs.Ytnikajkklocncaa
namespace Go.Proofs.Ytnikajkklocncaa
open Go.RowKit
section
variable {P : Program} {l : List (Nat × Value)} {w : World} {t e ty : TypeId} {x y z : Operand} {k k' : IntKind} {n n' : Int}
theorem R.sliceLHg {g o len cap lo hi : Nat} {j : TypeInfo} (ht : P.underlying t = some (.slice e)) (hj : P.info? e = some j) (h1 : j.size = 1) (hx : opv l x = some (.slice (some ⟨g, o, none⟩) len cap)) (hy : opv l y = some (.int k n)) (hz : opv l z = some (.int k' n')) (hn : n = (lo : Int)) (hn' : n' = (hi : Int)) (hc : lo ≤ hi) (hcc : hi ≤ cap) (hlt : lo < cap) :
    Run P l w (.slice t x (some y) (some z) none) ty (.slice (some ⟨g, o + lo, none⟩) (hi - lo) (cap - lo)) w := fun ev hev _ _ _ _ => by
  subst hn hn'
  have h1' : (Instr.slice t (.slice (some ⟨g, o, none⟩) len cap) (some (.int k (lo : Int))) (some (.int k' (hi : Int))) none).run P w = .ok (.slice (some ⟨g, o + lo, none⟩) (hi - lo) (cap - lo)) w := by
    simp only [Instr.slice, Sem.run_bind, run_underlying ht, Result.andThen_ok, Instr.sliceBounds, Instr.sliceBound, asIntOf, Sem.run_pure]
    simp [hc, hcc, hlt, run_sizeOf_of hj, h1, Addr.add]
    repeat' split
    all_goals first | rfl | omega | (simp_all; done)
  have h2 : (Instr.sliceAt t (.slice (some ⟨g, o, none⟩) len cap) (some (.int k (lo : Int))) (some (.int k' (hi : Int))) none).run P w = .ok (.slice (some ⟨g, o + lo, none⟩) (hi - lo) (cap - lo)) w := by
    unfold Instr.sliceAt
    simp only [Sem.run_bind, run_underlying ht, Result.andThen_ok]
    exact h1'
  simp [execOp, hev _ _ hx, hev _ _ hy, hev _ _ hz, h2]
theorem R.sliceLH {g len cap lo hi : Nat} {j : TypeInfo} (ht : P.underlying t = some (.slice e)) (hj : P.info? e = some j) (h1 : j.size = 1) (hx : opv l x = some (.slice (some ⟨g, 0, none⟩) len cap)) (hy : opv l y = some (.int k n)) (hz : opv l z = some (.int k' n')) (hn : n = (lo : Int)) (hn' : n' = (hi : Int)) (hc : lo ≤ hi) (hcc : hi ≤ cap) (hlt : lo < cap) :
    Run P l w (.slice t x (some y) (some z) none) ty (.slice (some ⟨g, lo, none⟩) (hi - lo) (cap - lo)) w := by
  have := R.sliceLHg (P := P) (w := w) (ty := ty) ht hj h1 hx hy hz hn hn' hc hcc hlt
  rwa [Nat.zero_add] at this
end
theorem Mem.ownRd {w0 w : World} {F : Nat → Prop} {L : List Ck} {e : TypeId} {a : Option Addr} {c : Nat} {X : List Int} (h : Mem w0 F (own e 1 (.slice a X.length c) X.length (X.map (Value.int .i64)) :: L) w) : Mem w0 F (Go.Proofs.Ytnikajkklocncaa.rd a c X :: L) w :=
  h.head (Mem.rsl (k := 0) h rfl) fun b ⟨_, p, hp, hb⟩ => by
    subst hp
    obtain ⟨a', cap', he, -, -, -, -, h2⟩ := h.ownForm (k := 0) rfl
    cases he
    obtain ⟨g, hg⟩ := h2 p rfl
    subst hg hb
    rfl
theorem Mem.rdFresh {w0 w : World} {L : List Ck} {k c : Nat} {a : Option Addr} {X : List Int} (hM : Mem w0 nof L w) (hk : ith L k = some (Go.Proofs.Ytnikajkklocncaa.rd a c X)) (hX : X ≠ []) : frs w0.heap.size a := fun p hp => by
  rw [ith_eq] at hk
  exact Nat.le_of_not_lt fun h => (hM.inb _ (List.mem_of_getElem? hk) p.block ⟨hX, p, hp, rfl⟩).2 h
end Go.Proofs.Ytnikajkklocncaa
namespace Go.Proofs.Ytnikajkklocncaa
open Go.RowKit
def chB (i : Ins) (X : List Int) (c : Int) (p q : Nat) : BS3 := tr1 (costI i) i (X, c, false) p q
def rdB (i : Ins) (X : List Int) (c : Int) : BS3 := rndB (costI i) i (X, c, false)
def betI (i : Ins) (x : List Int) : List Int := if (costI i x).2 ≠ 0 then [] else betB (costI i) i x
theorem betI_no {i : Ins} {x : List Int} (h : ¬ (costI i x).2 = 0) : betI i x = [] := if_pos h
theorem betI_yes {i : Ins} {x : List Int} (h : (costI i x).2 = 0) : betI i x = betB (costI i) i x := if_neg (not_not_intro h)
theorem chB_len (i : Ins) (X : List Int) (c : Int) (p q : Nat) : (chB i X c p q).1.length = X.length := by
  unfold chB
  by_cases g : (costI i (chg i X p q)).2 = 0 ∧ (costI i (chg i X p q)).1 < c
  · rw [tr1_yes (s := (X, c, false)) g]; exact chg_len _ _ _ _
  · rw [tr1_no (s := (X, c, false)) g]
theorem chB_t {i : Ins} {s : BS3} {p q : Nat} (h : (chB i s.1 s.2.1 p q).2.2 = true) : tr1 (costI i) i s p q = chB i s.1 s.2.1 p q := by
  by_cases g : (costI i (chg i s.1 p q)).2 = 0 ∧ (costI i (chg i s.1 p q)).1 < s.2.1
  · unfold chB; rw [tr1_yes g, tr1_yes (s := (s.1, s.2.1, false)) g]
  · unfold chB at h; rw [tr1_no (s := (s.1, s.2.1, false)) g] at h; cases h
theorem chB_f {i : Ins} {s : BS3} {p q : Nat} (h : (chB i s.1 s.2.1 p q).2.2 = false) : chB i s.1 s.2.1 p q = (s.1, s.2.1, false) ∧ tr1 (costI i) i s p q = s := by
  by_cases g : (costI i (chg i s.1 p q)).2 = 0 ∧ (costI i (chg i s.1 p q)).1 < s.2.1
  · unfold chB at h; rw [tr1_yes (s := (s.1, s.2.1, false)) g] at h; cases h
  · unfold chB; exact ⟨tr1_no (s := (s.1, s.2.1, false)) g, tr1_no g⟩
theorem rdB_eq (i : Ins) (s : BS3) : rdB i s.1 s.2.1 = rndB (costI i) i s := by
  have h : ∀ m, othB (costI i) i (s.1, s.2.1, false) m = othB (costI i) i s m := fun m => by
    induction m with
    | zero => rfl
    | succ m ih => rw [othB, othB, ih]
  exact h _
theorem cost_len {i : Ins} {x : List Int} (h : (costI i x).2 = 0) : x.length = i.n.toNat := by
  have hz := costI_chk h
  have h1 := (chk_inF hz).n1
  by_cases hk : i.kind = 1
  · rw [costI_kn hz hk] at h
    unfold knpI at h
    split at h
    · cases h
    · rename_i g; omega
  · rw [costI_or hz hk] at h
    split at h
    · cases h
    · rename_i g; exact (Decidable.not_not.1 g).1.1
set_option maxRecDepth 100000 in
set_option maxHeartbeats 400000 in
theorem change10 (i : Ins) (ax3 : Option Addr) (cx3 : Nat) (ax4 : Option Addr) (cx4 : Nat) (ax5 : Option Addr) (cx5 : Nat) (sb : Nat) (xa : Option Addr) (xc : Nat) (X : List Int) (cc : Int) (p q : Nat) (hsm : i.wt.length ≤ 1000000 ∧ i.vl.length ≤ 1000000) (hF : InF i) (hXl : X.length = i.n.toNat) (hpq : p < q) (hqn : q < i.n.toNat) (w0 : World) (w : World) (hx3 : IntSl w0 (.slice ax3 i.wt.length cx3) i.wt) (hx4 : IntSl w0 (.slice ax4 i.vl.length cx4) i.vl) (hx5 : RowsV w0 (.slice ax5 i.cost.length cx5) i.cost) (hM : Mem w0 nof [pt sb #[.int .i64 i.kind, .int .i64 i.n, .int .i64 i.cap, .slice ax3 i.wt.length cx3, .slice ax4 i.vl.length cx4, .slice ax5 i.cost.length cx5, .slice xa X.length xc, .int .i64 cc] 55, rd xa xc X] w) :
  Calls Try.prog 66 #[.pointer (some ⟨sb, 0, none⟩), .int .i64 ((p : Int)), .int .i64 ((q : Int))] w fun e w' => ∃ ya yc, e = .returned (.bool (chB i X cc p q).2.2) ∧ Mem w0 nof [pt sb #[.int .i64 i.kind, .int .i64 i.n, .int .i64 i.cap, .slice ax3 i.wt.length cx3, .slice ax4 i.vl.length cx4, .slice ax5 i.cost.length cx5, .slice ya (((chB i X cc p q).1).length) yc, .int .i64 ((chB i X cc p q).2.1)] 55, rd ya yc ((chB i X cc p q).1)] w' := by
 have hbs := Below.refl (B := w.heap.size) w
 have f3 := hF.n64
 have hcb := cost_bd i (chg i X p q)
 refine Calls.of_ends (vs := [.pointer (some ⟨sb, 0, none⟩), .int .i64 ((p : Int)), .int .i64 ((q : Int))]) Try.func66 rfl Try.ntmps66 rfl ?_
 intro a hA
 replace hA : St 68 [(0, _), (1, _), (2, _)] a := hA
 refine Ends.seq (Ends.region ?_)
 refine S.val hA (R.assign rfl) rfl ?_; clear hA a; intro a hA
 refine S.done ?_
 refine Ends.seq (Ends.region ?_)
 refine S.val hA (R.move rfl) rfl ?_; clear hA a; intro a hA
 refine S.val hA (R.nilCheck rfl) rfl ?_; clear hA a; intro a hA
 refine S.val hA (R.fieldAddr (q := 6) fi55_1 rfl rfl rfl) rfl ?_; clear hA a; intro a hA
 refine S.val hA (R.load sz22 rfl (hM.cell (k := 0) rfl rfl)) rfl ?_; clear hA a; intro a hA
 refine S.call hA (R.callF Try.func49 rfl rfl rfl) rfl (clone09 xa X xc (by omega) _ (hM.rd (k := 1) rfl)) ?_; clear hA a
 rintro e w1 ⟨ga, gc, rfl, hn⟩
 replace hM : Mem _ _ [own 3 1 (.slice ga X.length gc) X.length (X.map (Value.int .i64)), pt sb #[.int .i64 i.kind, .int .i64 i.n, .int .i64 i.cap, .slice ax3 i.wt.length cx3, .slice ax4 i.vl.length cx4, .slice ax5 i.cost.length cx5, .slice xa X.length xc, .int .i64 cc] 55, rd xa xc X] _ := hM.call hn; clear hn
 refine ⟨.slice ga X.length gc, rfl, fun a hA => ?_⟩
 refine S.val hA (R.assign rfl) rfl ?_; clear hA a; intro a hA
 refine S.done ?_
 obtain ⟨g, hgg⟩ := hM.ownAt (k := 0) rfl (by omega)
 have hcl := (hM.ownLe (k := 0) rfl).1
 subst hgg
 replace hA : St 68 [(0, _), (1, _), (2, _), (7, _)] a := hA.sub ((.cons rfl (.cons rfl (.cons rfl (.cons rfl .nil)))))
 refine Ends.seq (Ends.seq (Ends.region ?_))
 refine S.val hA (R.move rfl) rfl ?_; clear hA a; intro a hA
 refine S.val hA (R.nilCheck rfl) rfl ?_; clear hA a; intro a hA
 refine S.val hA (R.fieldAddr (q := 0) fi55_0 rfl rfl rfl) rfl ?_; clear hA a; intro a hA
 refine S.val hA (R.fieldAddr (q := 0) fi25_0 rfl rfl rfl) rfl ?_; clear hA a; intro a hA
 refine S.val hA (R.load sz3 rfl (hM.cell (k := 1) rfl rfl)) rfl ?_; clear hA a; intro a hA
 refine S.val hA (R.eql rfl rfl) rfl ?_; clear hA a; intro a hA
 refine S.done ?_
 replace hA : St 68 [(0, _), (1, _), (2, _), (7, _), (20, _)] a := hA.sub ((.cons rfl (.cons rfl (.cons rfl (.cons rfl (.cons rfl .nil))))))
 refine Ends.ite hA rfl (fun hc1 => ?_) (fun hc1 => ?_)
 ·
  have hk3 := hc1
  refine Ends.region ?_
  refine S.val hA (R.move rfl) rfl ?_; clear hA a; intro a hA
  refine S.val hA (R.move rfl) rfl ?_; clear hA a; intro a hA
  refine S.val hA (R.move rfl) rfl ?_; clear hA a; intro a hA
  refine S.val hA (R.addI rfl rfl (r := ((q : Int)) + 1) rfl (by omega)) rfl ?_; clear hA a; intro a hA
  refine S.val hA (R.sliceLH (lo := p) (hi := q + 1) Try.underlying22 info3 rfl rfl rfl rfl (by omega) (by omega) (by omega) (by omega) (by omega)) rfl ?_; clear hA a; intro a hA
  refine S.call hA (R.callF Try.func73 rfl rfl rfl) rfl (rev09 g p (q + 1 - p) gc (gc - p) X (by omega) (by omega) _ (hM.hereN 1)) ?_; clear hA a
  rintro e w2 ⟨rfl, hn⟩
  replace hM : Mem _ _ [own 3 1 (.slice ((some ⟨g, 0, none⟩)) X.length gc) X.length (((revAt X p (q + 1 - p))).map (Value.int .i64)), pt sb #[.int .i64 i.kind, .int .i64 i.n, .int .i64 i.cap, .slice ax3 i.wt.length cx3, .slice ax4 i.vl.length cx4, .slice ax5 i.cost.length cx5, .slice xa X.length xc, .int .i64 cc] 55, rd xa xc X] _ := hM.callL 1 hn; clear hn
  refine ⟨(.tuple #[]), rfl, fun a hA => ?_⟩
  refine S.done ?_
  replace hA : St 68 [(0, _), (7, _)] a := hA.sub ((.cons rfl (.cons rfl .nil)))
  refine Ends.seq ?_
  have hY : (revAt X p (q + 1 - p)) = chg i X p q := by unfold revAt chg; rw [if_pos hk3]; exact rvS_at (by omega) (by omega)
  have hYl := chg_len i X p q
  obtain ⟨Y, hYd⟩ : ∃ Y, Y = chg i X p q := ⟨_, rfl⟩
  rw [← hYd] at hY hYl
  replace hM := Mem.eqL (L2 := [own 3 1 (.slice ((some ⟨g, 0, none⟩)) Y.length gc) Y.length (Y.map (Value.int .i64)), pt sb #[.int .i64 i.kind, .int .i64 i.n, .int .i64 i.cap, .slice ax3 i.wt.length cx3, .slice ax4 i.vl.length cx4, .slice ax5 i.cost.length cx5, .slice xa X.length xc, .int .i64 cc] 55, rd xa xc X]) hM (by rw [hYl, hY])
  rw [← hYl] at hA
  refine Ends.region ?_
  refine S.val hA (R.move rfl) rfl ?_; clear hA a; intro a hA
  refine S.val hA (R.nilCheck rfl) rfl ?_; clear hA a; intro a hA
  refine S.val hA (R.fieldAddr (q := 0) fi55_0 rfl rfl rfl) rfl ?_; clear hA a; intro a hA
  refine S.val hA (R.loadA sz25 rfl (hM.part (k := 1) rfl 0 6 rfl) rfl) rfl ?_; clear hA a; intro a hA
  refine S.val hA (R.move rfl) rfl ?_; clear hA a; intro a hA
  refine S.call hA (R.callF Try.func17 rfl rfl rfl) rfl (cost08 i ax3 cx3 ax4 cx4 ax5 cx5 ((some ⟨g, 0, none⟩)) Y gc hsm _ (hx3.mem hM) (hx4.mem hM) (hx5.mem hM) (hM.rsl (k := 0) rfl)) ?_; clear hA a
  rintro e w3 ⟨rfl, hb⟩
  replace hM := hM.callB hb; clear hb
  refine ⟨.tuple #[.int .i64 ((costI i Y).1), .int .i64 ((costI i Y).2)], rfl, fun a hA => ?_⟩
  refine S.val hA (R.move rfl) rfl ?_; clear hA a; intro a hA
  refine S.val hA (R.extract (v := .int .i64 ((costI i Y).1)) rfl rfl) rfl ?_; clear hA a; intro a hA
  refine S.val hA (R.extract (v := .int .i64 ((costI i Y).2)) rfl rfl) rfl ?_; clear hA a; intro a hA
  refine S.val hA (R.assign rfl) rfl ?_; clear hA a; intro a hA
  refine S.val hA (R.assign rfl) rfl ?_; clear hA a; intro a hA
  refine S.done ?_
  replace hA : St 68 [(0, _), (7, _), (8, _), (9, _)] a := hA.sub ((.cons rfl (.cons rfl (.cons rfl (.cons rfl .nil)))))
  refine Ends.seq (Ends.seq ?_)
  refine Ends.cut (fun (a : Act) (wv : World) => St 68 [(0, .pointer (some ⟨sb, 0, none⟩)), (7, .slice ((some ⟨g, 0, none⟩)) Y.length gc), (8, .int .i64 ((costI i Y).1)), (59, .bool (decide ((((costI i Y).2) ≠ 0 ∨ cc ≤ ((costI i Y).1)))))] a ∧ Mem w0 nof [own 3 1 (.slice ((some ⟨g, 0, none⟩)) Y.length gc) Y.length (Y.map (Value.int .i64)), pt sb #[.int .i64 i.kind, .int .i64 i.n, .int .i64 i.cap, .slice ax3 i.wt.length cx3, .slice ax4 i.vl.length cx4, .slice ax5 i.cost.length cx5, .slice xa X.length xc, .int .i64 cc] 55, rd xa xc X] wv) ?_ (fun k2 hJ => ?_)
  ·
   clear hA hM a; rintro a w4 ⟨hA, hM⟩
   refine Ends.ite hA rfl (fun hc2 => ?_) (fun hc2 => ?_)
   ·
    have hT : chB i X cc p q = (X, cc, false) := tr1_no (s := (X, cc, false)) (fun g => by
     have g1 : (costI i (chg i X p q)).2 = 0 := g.1
     have g2 : (costI i (chg i X p q)).1 < cc := g.2
     rw [← hYd] at g1 g2
     rcases hc2 with h9 | h9
     · exact h9 g1
     · omega)
    refine Ends.seq (Ends.region ?_)
    refine S.val hA (R.assign rfl) rfl ?_; clear hA a; intro a hA
    refine S.done ?_
    refine Ends.ret1 Try.func66 Try.results66 hA rfl ?_
    replace hM := hM.front (k := 2) rfl
    replace hM := hM.front (k := 2) rfl
    replace hM := hM.firstN 2
    rw [hT]
    exact ⟨_, _, rfl, hM⟩
   ·
    have h9 : (costI i Y).2 = 0 ∧ (costI i Y).1 < cc := ⟨Classical.byContradiction fun g => hc2 (.inl g), Classical.byContradiction fun g => hc2 (.inr (by omega))⟩
    have hT : chB i X cc p q = (Y, (costI i Y).1, true) := by rw [hYd] at h9 ⊢; exact tr1_yes (s := (X, cc, false)) h9
    refine Ends.skip (Ends.seq (Ends.region ?_))
    refine S.val hA (R.move rfl) rfl ?_; clear hA a; intro a hA
    refine S.val hA (R.move rfl) rfl ?_; clear hA a; intro a hA
    refine S.val hA (R.move rfl) rfl ?_; clear hA a; intro a hA
    refine S.val hA (R.move rfl) rfl ?_; clear hA a; intro a hA
    refine S.val hA (R.nilCheck rfl) rfl ?_; clear hA a; intro a hA
    refine S.val hA (R.fieldAddr (q := 6) fi55_1 rfl rfl rfl) rfl ?_; clear hA a; intro a hA
    refine S.store (k := 1) hA hM sz22 rfl rfl rfl rfl rfl ?_; clear hM
    intro w5 hM
    replace hM : Mem _ _ [own 3 1 (.slice ((some ⟨g, 0, none⟩)) Y.length gc) Y.length (Y.map (Value.int .i64)), pt sb #[.int .i64 i.kind, .int .i64 i.n, .int .i64 i.cap, .slice ax3 i.wt.length cx3, .slice ax4 i.vl.length cx4, .slice ax5 i.cost.length cx5, .slice ((some ⟨g, 0, none⟩)) Y.length gc, .int .i64 cc] 55, rd xa xc X] _ := hM
    refine S.val hA (R.nilCheck rfl) rfl ?_; clear hA a; intro a hA
    refine S.val hA (R.fieldAddr (q := 7) fi55_2 rfl rfl rfl) rfl ?_; clear hA a; intro a hA
    refine S.store (k := 1) hA hM sz3 rfl rfl rfl rfl rfl ?_; clear hM
    intro w6 hM
    replace hM : Mem _ _ [own 3 1 (.slice ((some ⟨g, 0, none⟩)) Y.length gc) Y.length (Y.map (Value.int .i64)), pt sb #[.int .i64 i.kind, .int .i64 i.n, .int .i64 i.cap, .slice ax3 i.wt.length cx3, .slice ax4 i.vl.length cx4, .slice ax5 i.cost.length cx5, .slice ((some ⟨g, 0, none⟩)) Y.length gc, .int .i64 ((costI i Y).1)] 55, rd xa xc X] _ := hM
    refine S.done ?_
    replace hA : St 68 [] a := hA.sub (.nil)
    refine Ends.seq (Ends.region ?_)
    refine S.val hA (R.assign rfl) rfl ?_; clear hA a; intro a hA
    refine S.done ?_
    refine Ends.ret1 Try.func66 Try.results66 hA rfl ?_
    replace hM := hM.ownRd
    replace hM : Mem _ _ [rd ((some ⟨g, 0, none⟩)) gc Y, pt sb #[.int .i64 i.kind, .int .i64 i.n, .int .i64 i.cap, .slice ax3 i.wt.length cx3, .slice ax4 i.vl.length cx4, .slice ax5 i.cost.length cx5, .slice ((some ⟨g, 0, none⟩)) Y.length gc, .int .i64 ((costI i Y).1)] 55, rd xa xc X] _ := hM
    replace hM := hM.front (k := 1) rfl
    replace hM := hM.firstN 2
    rw [hT]
    exact ⟨_, _, rfl, hM⟩
  ·
   refine Ends.region ?_
   refine S.val hA (R.move rfl) rfl ?_; clear hA a; intro a hA
   refine S.val hA (R.neq rfl rfl) rfl ?_; clear hA a; intro a hA
   refine S.val hA (R.move rfl) rfl ?_; clear hA a; intro a hA
   refine hA.split (d := 52) rfl ?_ ?_
   ·
    clear hA; intro hg3 hA
    refine S.no (dj := 52) hA (by kernel_rfl) rfl rfl rfl ?_; clear hA a; intro a hA
    refine S.no (dj := 52) hA (by kernel_rfl) rfl rfl rfl ?_; clear hA a; intro a hA
    refine S.no (dj := 52) hA (by kernel_rfl) rfl rfl rfl ?_; clear hA a; intro a hA
    refine S.no (dj := 52) hA (by kernel_rfl) rfl rfl rfl ?_; clear hA a; intro a hA
    refine S.no (dj := 52) hA (by kernel_rfl) rfl rfl rfl ?_; clear hA a; intro a hA
    refine S.no (dj := 52) hA (by kernel_rfl) rfl rfl rfl ?_; clear hA a; intro a hA
    refine S.val hA (R.pickT rfl rfl) rfl ?_; clear hA a; intro a hA
    refine S.done ?_
    replace hA : St 68 [(0, _), (7, _), (8, _), (59, _)] a := hA.sub ((.cons rfl (.cons rfl (.cons rfl (.cons rfl .nil)))))
    exact hJ _ _ ⟨hA.sub (.cons rfl (.cons rfl (.cons rfl (.cons (by first | rfl | exact congrArg (fun b => some (Value.bool b)) (by first | exact decide_eq_decide.2 (by omega) | exact or_bool (by omega) | exact and_bool (by omega) | (simp; done) | (simp [hg3]; done) | (have h80 := hg3; (try simp at h80); simp [h80]; done) | exact (decide_eq_false (fun h9 => hg3 h9.1)).symm)) .nil)))), hM⟩
   ·
    clear hA; intro hg3 hA
    refine S.valg (dj := 52) hA (by kernel_rfl) rfl (R.move rfl) rfl ?_; clear hA a; intro a hA
    refine S.valg (dj := 52) hA (by kernel_rfl) rfl (R.move rfl) rfl ?_; clear hA a; intro a hA
    refine S.valg (dj := 52) hA (by kernel_rfl) rfl (R.nilCheck rfl) rfl ?_; clear hA a; intro a hA
    refine S.valg (dj := 52) hA (by kernel_rfl) rfl (R.fieldAddr (q := 7) fi55_2 rfl rfl rfl) rfl ?_; clear hA a; intro a hA
    refine S.valg (dj := 52) hA (by kernel_rfl) rfl (R.load sz3 rfl (hM.cell (k := 1) rfl rfl)) rfl ?_; clear hA a; intro a hA
    refine S.valg (dj := 52) hA (by kernel_rfl) rfl (R.geq rfl rfl) rfl ?_; clear hA a; intro a hA
    refine S.val hA (R.pickF rfl rfl) rfl ?_; clear hA a; intro a hA
    refine S.done ?_
    replace hA : St 68 [(0, _), (7, _), (8, _), (59, _)] a := hA.sub ((.cons rfl (.cons rfl (.cons rfl (.cons rfl .nil)))))
    exact hJ _ _ ⟨hA.sub (.cons rfl (.cons rfl (.cons rfl (.cons (by first | rfl | exact congrArg (fun b => some (Value.bool b)) (by first | exact decide_eq_decide.2 (by omega) | exact or_bool (by omega) | exact and_bool (by omega) | (simp; done) | (simp [hg3]; done) | (have h80 := hg3; (try simp at h80); simp [h80]; done) | exact (decide_eq_false (fun h9 => hg3 h9.1)).symm)) .nil)))), hM⟩
 ·
  have hk3 := hc1
  refine Ends.drawn (Mem w0 nof [own 3 1 (.slice ((some ⟨g, 0, none⟩)) X.length gc) X.length (X.map (Value.int .i64)), pt sb #[.int .i64 i.kind, .int .i64 i.n, .int .i64 i.cap, .slice ax3 i.wt.length cx3, .slice ax4 i.vl.length cx4, .slice ax5 i.cost.length cx5, .slice xa X.length xc, .int .i64 cc] 55, rd xa xc X]) (.cons (0, true) (.cons (1, true) (.cons (2, true) (.cons (3, true) (.cons (4, true) (.cons (5, true) (.cons (6, true) (.cons (7, true) (.cons (8, true) (.cons (9, true) (.cons (10, true) (.cons (11, true) (.cons (12, true) (.cons (13, false) (.cons (14, true) (.cons (15, false) .nil)))))))))))))))) 13 mixed (by kernel_rfl) (by kernel_rfl) (by kernel_rfl) hM.drew ?_
  replace hM := hM.drew
  refine D.valF hA rfl (fun _ => R.move rfl) rfl ?_; clear hA a; intro a hA
  refine D.valF hA rfl (fun _ => R.move rfl) rfl ?_; clear hA a; intro a hA
  refine D.valF hA rfl (fun _ => R.move rfl) rfl ?_; clear hA a; intro a hA
  refine D.valF hA rfl (fun _ => R.move rfl) rfl ?_; clear hA a; intro a hA
  refine D.valF hA rfl (fun _ => R.move rfl) rfl ?_; clear hA a; intro a hA
  refine D.valF hA rfl (fun _ => R.move rfl) rfl ?_; clear hA a; intro a hA
  refine D.valF hA rfl (fun _ => R.indexAddr (q := q) sl22 rfl rfl (by omega) (by omega)) rfl ?_; clear hA a; intro a hA
  refine D.val hA rfl (by kernel_rfl) (fun _ hM => R.load sz3 rfl (hM.ownCell (k := 0) rfl (mapi_get _ _ (by omega)))) rfl ?_; clear hA a; intro a hA
  refine D.valF hA rfl (fun _ => R.move rfl) rfl ?_; clear hA a; intro a hA
  refine D.valF hA rfl (fun _ => R.move rfl) rfl ?_; clear hA a; intro a hA
  refine D.valF hA rfl (fun _ => R.indexAddr (q := p) sl22 rfl rfl (by omega) (by omega)) rfl ?_; clear hA a; intro a hA
  refine D.val hA rfl (by kernel_rfl) (fun _ hM => R.load sz3 rfl (hM.ownCell (k := 0) rfl (mapi_get _ _ (by omega)))) rfl ?_; clear hA a; intro a hA
  refine D.valF hA rfl (fun _ => R.indexAddr (q := p) sl22 rfl rfl (by omega) (by omega)) rfl ?_; clear hA a; intro a hA
  refine D.storeO (k := 0) hA hM rfl sz3 rfl rfl rfl rfl (mapi_get X p (by first | omega | (simp only [List.length_set]; omega) | (simp; done))) ?_; clear hM; intro w7 hM; rw [mapi_set] at hM
  refine ⟨fun _ hne => absurd rfl hne, ?_⟩
  replace hM : Mem _ _ [own 3 1 (.slice ((some ⟨g, 0, none⟩)) X.length gc) X.length (((X.set p (X.getD q 0))).map (Value.int .i64)), pt sb #[.int .i64 i.kind, .int .i64 i.n, .int .i64 i.cap, .slice ax3 i.wt.length cx3, .slice ax4 i.vl.length cx4, .slice ax5 i.cost.length cx5, .slice xa X.length xc, .int .i64 cc] 55, rd xa xc X] _ := hM
  refine D.valF hA rfl (fun _ => R.indexAddr (q := q) sl22 rfl rfl (by omega) (by omega)) rfl ?_; clear hA a; intro a hA
  refine D.storeO (k := 0) hA hM rfl sz3 rfl rfl rfl rfl (mapi_get ((X.set p (X.getD q 0))) q (by first | omega | (simp only [List.length_set]; omega) | (simp; done))) ?_; clear hM; intro w8 hM; rw [mapi_set] at hM
  refine ⟨fun hb0 => absurd hb0 (by decide), ?_⟩
  replace hM : Mem _ _ [own 3 1 (.slice ((some ⟨g, 0, none⟩)) X.length gc) X.length ((((X.set p (X.getD q 0)).set q (X.getD p 0))).map (Value.int .i64)), pt sb #[.int .i64 i.kind, .int .i64 i.n, .int .i64 i.cap, .slice ax3 i.wt.length cx3, .slice ax4 i.vl.length cx4, .slice ax5 i.cost.length cx5, .slice xa X.length xc, .int .i64 cc] 55, rd xa xc X] _ := hM
  refine D.done ?_
  replace hA : St 68 [(0, _), (7, _)] a := hA.sub ((.cons rfl (.cons rfl .nil)))
  refine Ends.seq ?_
  have hY : ((X.set p (X.getD q 0)).set q (X.getD p 0)) = chg i X p q := by unfold chg; rw [if_neg hk3]
  have hYl := chg_len i X p q
  obtain ⟨Y, hYd⟩ : ∃ Y, Y = chg i X p q := ⟨_, rfl⟩
  rw [← hYd] at hY hYl
  replace hM := Mem.eqL (L2 := [own 3 1 (.slice ((some ⟨g, 0, none⟩)) Y.length gc) Y.length (Y.map (Value.int .i64)), pt sb #[.int .i64 i.kind, .int .i64 i.n, .int .i64 i.cap, .slice ax3 i.wt.length cx3, .slice ax4 i.vl.length cx4, .slice ax5 i.cost.length cx5, .slice xa X.length xc, .int .i64 cc] 55, rd xa xc X]) hM (by rw [hYl, hY])
  rw [← hYl] at hA
  refine Ends.region ?_
  refine S.val hA (R.move rfl) rfl ?_; clear hA a; intro a hA
  refine S.val hA (R.nilCheck rfl) rfl ?_; clear hA a; intro a hA
  refine S.val hA (R.fieldAddr (q := 0) fi55_0 rfl rfl rfl) rfl ?_; clear hA a; intro a hA
  refine S.val hA (R.loadA sz25 rfl (hM.part (k := 1) rfl 0 6 rfl) rfl) rfl ?_; clear hA a; intro a hA
  refine S.val hA (R.move rfl) rfl ?_; clear hA a; intro a hA
  refine S.call hA (R.callF Try.func17 rfl rfl rfl) rfl (cost08 i ax3 cx3 ax4 cx4 ax5 cx5 ((some ⟨g, 0, none⟩)) Y gc hsm _ (hx3.mem hM) (hx4.mem hM) (hx5.mem hM) (hM.rsl (k := 0) rfl)) ?_; clear hA a
  rintro e w9 ⟨rfl, hb⟩
  replace hM := hM.callB hb; clear hb
  refine ⟨.tuple #[.int .i64 ((costI i Y).1), .int .i64 ((costI i Y).2)], rfl, fun a hA => ?_⟩
  refine S.val hA (R.move rfl) rfl ?_; clear hA a; intro a hA
  refine S.val hA (R.extract (v := .int .i64 ((costI i Y).1)) rfl rfl) rfl ?_; clear hA a; intro a hA
  refine S.val hA (R.extract (v := .int .i64 ((costI i Y).2)) rfl rfl) rfl ?_; clear hA a; intro a hA
  refine S.val hA (R.assign rfl) rfl ?_; clear hA a; intro a hA
  refine S.val hA (R.assign rfl) rfl ?_; clear hA a; intro a hA
  refine S.done ?_
  replace hA : St 68 [(0, _), (7, _), (8, _), (9, _)] a := hA.sub ((.cons rfl (.cons rfl (.cons rfl (.cons rfl .nil)))))
  refine Ends.seq (Ends.seq ?_)
  refine Ends.cut (fun (a : Act) (wv : World) => St 68 [(0, .pointer (some ⟨sb, 0, none⟩)), (7, .slice ((some ⟨g, 0, none⟩)) Y.length gc), (8, .int .i64 ((costI i Y).1)), (59, .bool (decide ((((costI i Y).2) ≠ 0 ∨ cc ≤ ((costI i Y).1)))))] a ∧ Mem w0 nof [own 3 1 (.slice ((some ⟨g, 0, none⟩)) Y.length gc) Y.length (Y.map (Value.int .i64)), pt sb #[.int .i64 i.kind, .int .i64 i.n, .int .i64 i.cap, .slice ax3 i.wt.length cx3, .slice ax4 i.vl.length cx4, .slice ax5 i.cost.length cx5, .slice xa X.length xc, .int .i64 cc] 55, rd xa xc X] wv) ?_ (fun k2 hJ => ?_)
  ·
   clear hA hM a; rintro a w10 ⟨hA, hM⟩
   refine Ends.ite hA rfl (fun hc4 => ?_) (fun hc4 => ?_)
   ·
    have hT : chB i X cc p q = (X, cc, false) := tr1_no (s := (X, cc, false)) (fun g => by
     have g1 : (costI i (chg i X p q)).2 = 0 := g.1
     have g2 : (costI i (chg i X p q)).1 < cc := g.2
     rw [← hYd] at g1 g2
     rcases hc4 with h9 | h9
     · exact h9 g1
     · omega)
    refine Ends.seq (Ends.region ?_)
    refine S.val hA (R.assign rfl) rfl ?_; clear hA a; intro a hA
    refine S.done ?_
    refine Ends.ret1 Try.func66 Try.results66 hA rfl ?_
    replace hM := hM.front (k := 2) rfl
    replace hM := hM.front (k := 2) rfl
    replace hM := hM.firstN 2
    rw [hT]
    exact ⟨_, _, rfl, hM⟩
   ·
    have h9 : (costI i Y).2 = 0 ∧ (costI i Y).1 < cc := ⟨Classical.byContradiction fun g => hc4 (.inl g), Classical.byContradiction fun g => hc4 (.inr (by omega))⟩
    have hT : chB i X cc p q = (Y, (costI i Y).1, true) := by rw [hYd] at h9 ⊢; exact tr1_yes (s := (X, cc, false)) h9
    refine Ends.skip (Ends.seq (Ends.region ?_))
    refine S.val hA (R.move rfl) rfl ?_; clear hA a; intro a hA
    refine S.val hA (R.move rfl) rfl ?_; clear hA a; intro a hA
    refine S.val hA (R.move rfl) rfl ?_; clear hA a; intro a hA
    refine S.val hA (R.move rfl) rfl ?_; clear hA a; intro a hA
    refine S.val hA (R.nilCheck rfl) rfl ?_; clear hA a; intro a hA
    refine S.val hA (R.fieldAddr (q := 6) fi55_1 rfl rfl rfl) rfl ?_; clear hA a; intro a hA
    refine S.store (k := 1) hA hM sz22 rfl rfl rfl rfl rfl ?_; clear hM
    intro w11 hM
    replace hM : Mem _ _ [own 3 1 (.slice ((some ⟨g, 0, none⟩)) Y.length gc) Y.length (Y.map (Value.int .i64)), pt sb #[.int .i64 i.kind, .int .i64 i.n, .int .i64 i.cap, .slice ax3 i.wt.length cx3, .slice ax4 i.vl.length cx4, .slice ax5 i.cost.length cx5, .slice ((some ⟨g, 0, none⟩)) Y.length gc, .int .i64 cc] 55, rd xa xc X] _ := hM
    refine S.val hA (R.nilCheck rfl) rfl ?_; clear hA a; intro a hA
    refine S.val hA (R.fieldAddr (q := 7) fi55_2 rfl rfl rfl) rfl ?_; clear hA a; intro a hA
    refine S.store (k := 1) hA hM sz3 rfl rfl rfl rfl rfl ?_; clear hM
    intro w12 hM
    replace hM : Mem _ _ [own 3 1 (.slice ((some ⟨g, 0, none⟩)) Y.length gc) Y.length (Y.map (Value.int .i64)), pt sb #[.int .i64 i.kind, .int .i64 i.n, .int .i64 i.cap, .slice ax3 i.wt.length cx3, .slice ax4 i.vl.length cx4, .slice ax5 i.cost.length cx5, .slice ((some ⟨g, 0, none⟩)) Y.length gc, .int .i64 ((costI i Y).1)] 55, rd xa xc X] _ := hM
    refine S.done ?_
    replace hA : St 68 [] a := hA.sub (.nil)
    refine Ends.seq (Ends.region ?_)
    refine S.val hA (R.assign rfl) rfl ?_; clear hA a; intro a hA
    refine S.done ?_
    refine Ends.ret1 Try.func66 Try.results66 hA rfl ?_
    replace hM := hM.ownRd
    replace hM : Mem _ _ [rd ((some ⟨g, 0, none⟩)) gc Y, pt sb #[.int .i64 i.kind, .int .i64 i.n, .int .i64 i.cap, .slice ax3 i.wt.length cx3, .slice ax4 i.vl.length cx4, .slice ax5 i.cost.length cx5, .slice ((some ⟨g, 0, none⟩)) Y.length gc, .int .i64 ((costI i Y).1)] 55, rd xa xc X] _ := hM
    replace hM := hM.front (k := 1) rfl
    replace hM := hM.firstN 2
    rw [hT]
    exact ⟨_, _, rfl, hM⟩
  ·
   refine Ends.region ?_
   refine S.val hA (R.move rfl) rfl ?_; clear hA a; intro a hA
   refine S.val hA (R.neq rfl rfl) rfl ?_; clear hA a; intro a hA
   refine S.val hA (R.move rfl) rfl ?_; clear hA a; intro a hA
   refine hA.split (d := 52) rfl ?_ ?_
   ·
    clear hA; intro hg5 hA
    refine S.no (dj := 52) hA (by kernel_rfl) rfl rfl rfl ?_; clear hA a; intro a hA
    refine S.no (dj := 52) hA (by kernel_rfl) rfl rfl rfl ?_; clear hA a; intro a hA
    refine S.no (dj := 52) hA (by kernel_rfl) rfl rfl rfl ?_; clear hA a; intro a hA
    refine S.no (dj := 52) hA (by kernel_rfl) rfl rfl rfl ?_; clear hA a; intro a hA
    refine S.no (dj := 52) hA (by kernel_rfl) rfl rfl rfl ?_; clear hA a; intro a hA
    refine S.no (dj := 52) hA (by kernel_rfl) rfl rfl rfl ?_; clear hA a; intro a hA
    refine S.val hA (R.pickT rfl rfl) rfl ?_; clear hA a; intro a hA
    refine S.done ?_
    replace hA : St 68 [(0, _), (7, _), (8, _), (59, _)] a := hA.sub ((.cons rfl (.cons rfl (.cons rfl (.cons rfl .nil)))))
    exact hJ _ _ ⟨hA.sub (.cons rfl (.cons rfl (.cons rfl (.cons (by first | rfl | exact congrArg (fun b => some (Value.bool b)) (by first | exact decide_eq_decide.2 (by omega) | exact or_bool (by omega) | exact and_bool (by omega) | (simp; done) | (simp [hg5]; done) | (have h80 := hg5; (try simp at h80); simp [h80]; done) | exact (decide_eq_false (fun h9 => hg5 h9.1)).symm)) .nil)))), hM⟩
   ·
    clear hA; intro hg5 hA
    refine S.valg (dj := 52) hA (by kernel_rfl) rfl (R.move rfl) rfl ?_; clear hA a; intro a hA
    refine S.valg (dj := 52) hA (by kernel_rfl) rfl (R.move rfl) rfl ?_; clear hA a; intro a hA
    refine S.valg (dj := 52) hA (by kernel_rfl) rfl (R.nilCheck rfl) rfl ?_; clear hA a; intro a hA
    refine S.valg (dj := 52) hA (by kernel_rfl) rfl (R.fieldAddr (q := 7) fi55_2 rfl rfl rfl) rfl ?_; clear hA a; intro a hA
    refine S.valg (dj := 52) hA (by kernel_rfl) rfl (R.load sz3 rfl (hM.cell (k := 1) rfl rfl)) rfl ?_; clear hA a; intro a hA
    refine S.valg (dj := 52) hA (by kernel_rfl) rfl (R.geq rfl rfl) rfl ?_; clear hA a; intro a hA
    refine S.val hA (R.pickF rfl rfl) rfl ?_; clear hA a; intro a hA
    refine S.done ?_
    replace hA : St 68 [(0, _), (7, _), (8, _), (59, _)] a := hA.sub ((.cons rfl (.cons rfl (.cons rfl (.cons rfl .nil)))))
    exact hJ _ _ ⟨hA.sub (.cons rfl (.cons rfl (.cons rfl (.cons (by first | rfl | exact congrArg (fun b => some (Value.bool b)) (by first | exact decide_eq_decide.2 (by omega) | exact or_bool (by omega) | exact and_bool (by omega) | (simp; done) | (simp [hg5]; done) | (have h80 := hg5; (try simp at h80); simp [h80]; done) | exact (decide_eq_false (fun h9 => hg5 h9.1)).symm)) .nil)))), hM⟩
set_option maxRecDepth 100000 in
set_option maxHeartbeats 400000 in
theorem round10 (i : Ins) (ax3 : Option Addr) (cx3 : Nat) (ax4 : Option Addr) (cx4 : Nat) (ax5 : Option Addr) (cx5 : Nat) (sb : Nat) (xa : Option Addr) (xc : Nat) (X : List Int) (cc : Int) (hsm : i.wt.length ≤ 1000000 ∧ i.vl.length ≤ 1000000) (hF : InF i) (hXl : X.length = i.n.toNat) (w0 : World) (w : World) (hx3 : IntSl w0 (.slice ax3 i.wt.length cx3) i.wt) (hx4 : IntSl w0 (.slice ax4 i.vl.length cx4) i.vl) (hx5 : RowsV w0 (.slice ax5 i.cost.length cx5) i.cost) (hM : Mem w0 nof [pt sb #[.int .i64 i.kind, .int .i64 i.n, .int .i64 i.cap, .slice ax3 i.wt.length cx3, .slice ax4 i.vl.length cx4, .slice ax5 i.cost.length cx5, .slice xa X.length xc, .int .i64 cc] 55, rd xa xc X] w) :
  Calls Try.prog 50 #[.pointer (some ⟨sb, 0, none⟩)] w fun e w' => ∃ ya yc, e = .returned (.bool (rdB i X cc).2.2) ∧ Mem w0 nof [pt sb #[.int .i64 i.kind, .int .i64 i.n, .int .i64 i.cap, .slice ax3 i.wt.length cx3, .slice ax4 i.vl.length cx4, .slice ax5 i.cost.length cx5, .slice ya (((rdB i X cc).1).length) yc, .int .i64 ((rdB i X cc).2.1)] 55, rd ya yc ((rdB i X cc).1)] w' := by
 have hbs := Below.refl (B := w.heap.size) w
 have f1 := hF.n1
 have f3 := hF.n64
 have hfl := frm_le i
 refine Calls.of_ends (vs := [.pointer (some ⟨sb, 0, none⟩)]) Try.func50 rfl Try.ntmps50 rfl ?_
 intro a hA
 replace hA : St 39 [(0, _)] a := hA
 refine Ends.seq (Ends.region ?_)
 refine S.val hA (R.assign rfl) rfl ?_; clear hA a; intro a hA
 refine S.done ?_
 refine Ends.seq (Ends.region ?_)
 refine S.val hA (R.assign rfl) rfl ?_; clear hA a; intro a hA
 refine S.done ?_
 refine Ends.seq (Ends.seq (Ends.region ?_))
 refine S.val hA (R.move rfl) rfl ?_; clear hA a; intro a hA
 refine S.val hA (R.nilCheck rfl) rfl ?_; clear hA a; intro a hA
 refine S.val hA (R.fieldAddr (q := 0) fi55_0 rfl rfl rfl) rfl ?_; clear hA a; intro a hA
 refine S.val hA (R.fieldAddr (q := 0) fi25_0 rfl rfl rfl) rfl ?_; clear hA a; intro a hA
 refine S.val hA (R.load sz3 rfl (hM.cell (k := 0) rfl rfl)) rfl ?_; clear hA a; intro a hA
 refine S.val hA (R.eql rfl rfl) rfl ?_; clear hA a; intro a hA
 refine S.done ?_
 replace hA : St 39 [(0, _), (3, _), (12, _)] a := hA.sub ((.cons rfl (.cons rfl (.cons rfl .nil))))
 refine Ends.ite hA rfl (fun hc1 => ?_) (fun hc1 => ?_)
 ·
  have hk3 := hc1
  have hfr : frm i = 1 := if_pos hk3
  refine Ends.region ?_
  refine S.val hA (R.assign rfl) rfl ?_; clear hA a; intro a hA
  refine S.done ?_
  refine Ends.seq (Ends.region ?_)
  refine S.val hA (R.assign rfl) rfl ?_; clear hA a; intro a hA
  refine S.done ?_
  refine Ends.seq (Ends.seq (Ends.region ?_))
  refine S.val hA (R.move rfl) rfl ?_; clear hA a; intro a hA
  refine S.val hA (R.to (v := .int .i64 (((frm i + 0 : Nat) : Int))) (R.assign rfl) (congrArg (Value.int .i64) (by omega))) rfl ?_; clear hA a; intro a hA
  refine S.done ?_
  refine Ends.block ?_
  refine Ends.loop (σ := Nat × BS3 × Option Addr × Nat) (fun (m, S0, xa1, xc1) (a : Act) (wv : World) => St 39 [(0, .pointer (some ⟨sb, 0, none⟩)), (4, .bool S0.2.2), (5, .int .i64 (((frm i + m : Nat) : Int)))] a ∧ Mem w0 nof [pt sb #[.int .i64 i.kind, .int .i64 i.n, .int .i64 i.cap, .slice ax3 i.wt.length cx3, .slice ax4 i.vl.length cx4, .slice ax5 i.cost.length cx5, .slice xa1 S0.1.length xc1, .int .i64 S0.2.1] 55, rd xa1 xc1 S0.1] wv ∧ (frm i + m ≤ i.n.toNat) ∧ (S0 = othB (costI i) i (X, cc, false) m) ∧ (S0.1.length = i.n.toNat)) (fun (m, S0, xa1, xc1) => i.n.toNat - (frm i + m)) ((0, (X, cc, false), xa, xc)) ⟨hA.sub ((.cons rfl (.cons rfl (.cons rfl .nil)))), hM, (by omega), rfl, hXl⟩ ?_
  clear hA hM a
  rintro ⟨m, S0, xa1, xc1⟩ a w1 ⟨hA, hM, hm, hS, hl1⟩ hNext
  refine Ends.seq (Ends.seq (Ends.region ?_))
  refine S.val hA (R.move rfl) rfl ?_; clear hA a; intro a hA
  refine S.val hA (R.move rfl) rfl ?_; clear hA a; intro a hA
  refine S.val hA (R.nilCheck rfl) rfl ?_; clear hA a; intro a hA
  refine S.val hA (R.fieldAddr (q := 0) fi55_0 rfl rfl rfl) rfl ?_; clear hA a; intro a hA
  refine S.val hA (R.fieldAddr (q := 1) fi25_1 rfl rfl rfl) rfl ?_; clear hA a; intro a hA
  refine S.val hA (R.load sz3 rfl (hM.cell (k := 0) rfl rfl)) rfl ?_; clear hA a; intro a hA
  refine S.val hA (R.lss rfl rfl) rfl ?_; clear hA a; intro a hA
  refine S.done ?_
  replace hA : St 39 [(0, _), (4, _), (5, _), (20, _)] a := hA.sub ((.cons rfl (.cons rfl (.cons rfl (.cons rfl .nil)))))
  refine Ends.ite hA rfl (fun hc2 => ?_) (fun hc2 => ?_)
  ·
   refine Ends.skip (Ends.seq (Ends.block (Ends.seq (Ends.region ?_))))
   refine S.val hA (R.move rfl) rfl ?_; clear hA a; intro a hA
   refine S.val hA (R.addI rfl rfl (r := ((frm i + m + 1 + 0 : Nat) : Int)) (by omega) (by omega)) rfl ?_; clear hA a; intro a hA
   refine S.val hA (R.assign rfl) rfl ?_; clear hA a; intro a hA
   refine S.done ?_
   refine Ends.block ?_
   refine Ends.loop (σ := Nat × BS3 × Option Addr × Nat) (fun (j, S2, xa2, xc2) (a : Act) (wv : World) => St 39 [(0, .pointer (some ⟨sb, 0, none⟩)), (4, .bool S2.2.2), (5, .int .i64 (((frm i + m : Nat) : Int))), (6, .int .i64 (((frm i + m + 1 + j : Nat) : Int)))] a ∧ Mem w0 nof [pt sb #[.int .i64 i.kind, .int .i64 i.n, .int .i64 i.cap, .slice ax3 i.wt.length cx3, .slice ax4 i.vl.length cx4, .slice ax5 i.cost.length cx5, .slice xa2 S2.1.length xc2, .int .i64 S2.2.1] 55, rd xa2 xc2 S2.1] wv ∧ (frm i + m + 1 + j ≤ i.n.toNat) ∧ (S2 = innB (costI i) i S0 (frm i + m) j) ∧ (S2.1.length = i.n.toNat)) (fun (j, S2, xa2, xc2) => i.n.toNat - (frm i + m + 1 + j)) ((0, S0, xa1, xc1)) ⟨hA.sub ((.cons rfl (.cons rfl (.cons rfl (.cons rfl .nil))))), hM, (by omega), rfl, hl1⟩ ?_
   clear hA hM a
   rintro ⟨j, S2, xa2, xc2⟩ a w2 ⟨hA, hM, hj, hS2, hl2⟩ hNext1
   refine Ends.seq (Ends.seq (Ends.region ?_))
   refine S.val hA (R.move rfl) rfl ?_; clear hA a; intro a hA
   refine S.val hA (R.move rfl) rfl ?_; clear hA a; intro a hA
   refine S.val hA (R.nilCheck rfl) rfl ?_; clear hA a; intro a hA
   refine S.val hA (R.fieldAddr (q := 0) fi55_0 rfl rfl rfl) rfl ?_; clear hA a; intro a hA
   refine S.val hA (R.fieldAddr (q := 1) fi25_1 rfl rfl rfl) rfl ?_; clear hA a; intro a hA
   refine S.val hA (R.load sz3 rfl (hM.cell (k := 0) rfl rfl)) rfl ?_; clear hA a; intro a hA
   refine S.val hA (R.lss rfl rfl) rfl ?_; clear hA a; intro a hA
   refine S.done ?_
   replace hA : St 39 [(0, _), (4, _), (5, _), (6, _), (31, _)] a := hA.sub ((.cons rfl (.cons rfl (.cons rfl (.cons rfl (.cons rfl .nil))))))
   refine Ends.ite hA rfl (fun hc3 => ?_) (fun hc3 => ?_)
   ·
    refine Ends.skip (Ends.seq (Ends.block (Ends.seq (Ends.region ?_))))
    refine S.val hA (R.move rfl) rfl ?_; clear hA a; intro a hA
    refine S.val hA (R.move rfl) rfl ?_; clear hA a; intro a hA
    refine S.val hA (R.move rfl) rfl ?_; clear hA a; intro a hA
    refine S.call hA (R.callF Try.func66 rfl rfl rfl) rfl (change10 i ax3 cx3 ax4 cx4 ax5 cx5 sb xa2 xc2 S2.1 S2.2.1 (frm i + m) (frm i + m + 1 + j) hsm hF hl2 (by omega) (by omega) w0 _ hx3 hx4 hx5 hM) ?_; clear hA a
    rintro e w3 ⟨ya3, yc3, rfl, hn⟩
    replace hM : Mem _ _ [pt sb #[.int .i64 i.kind, .int .i64 i.n, .int .i64 i.cap, .slice ax3 i.wt.length cx3, .slice ax4 i.vl.length cx4, .slice ax5 i.cost.length cx5, .slice ya3 (((chB i S2.1 S2.2.1 (frm i + m) (frm i + m + 1 + j)).1).length) yc3, .int .i64 ((chB i S2.1 S2.2.1 (frm i + m) (frm i + m + 1 + j)).2.1)] 55, rd ya3 yc3 ((chB i S2.1 S2.2.1 (frm i + m) (frm i + m + 1 + j)).1)] _ := hn; clear hn
    refine ⟨.bool ((chB i S2.1 S2.2.1 (frm i + m) (frm i + m + 1 + j)).2.2), rfl, fun a hA => ?_⟩
    refine S.done ?_
    replace hA : St 39 [(0, _), (4, _), (5, _), (6, _), (37, _)] a := hA.sub ((.cons rfl (.cons rfl (.cons rfl (.cons rfl (.cons rfl .nil))))))
    refine Ends.iteB hA rfl (fun hc4 => ?_) (fun hc4 => ?_)
    ·
     have hT := chB_t hc4
     refine Ends.region ?_
     refine S.val hA (R.to (v := .bool ((chB i S2.1 S2.2.1 (frm i + m) (frm i + m + 1 + j)).2.2)) (R.assign rfl) (congrArg Value.bool hc4.symm)) rfl ?_; clear hA a; intro a hA
     refine S.done ?_
     refine Ends.inBlock (Ends.region ?_)
     refine S.val hA (R.move rfl) rfl ?_; clear hA a; intro a hA
     refine S.val hA (R.addI rfl rfl (r := ((frm i + m + 1 + (j + 1) : Nat) : Int)) (by omega) (by omega)) rfl ?_; clear hA a; intro a hA
     refine S.val hA (R.assign rfl) rfl ?_; clear hA a; intro a hA
     refine S.done ?_
     exact hNext1 ((j + 1, (chB i S2.1 S2.2.1 (frm i + m) (frm i + m + 1 + j)), ya3, yc3)) _ _ ((by show i.n.toNat - (frm i + m + 1 + (j + 1)) < i.n.toNat - (frm i + m + 1 + j); omega)) ⟨hA.sub ((.cons rfl (.cons rfl (.cons rfl (.cons rfl .nil))))), hM, (by omega), (by rw [innB, ← hS2]; exact hT.symm), (by rw [chB_len]; exact hl2)⟩
    ·
     have hT := chB_f hc4
     refine Ends.skip (Ends.inBlock (Ends.region ?_))
     refine S.val hA (R.move rfl) rfl ?_; clear hA a; intro a hA
     refine S.val hA (R.addI rfl rfl (r := ((frm i + m + 1 + (j + 1) : Nat) : Int)) (by omega) (by omega)) rfl ?_; clear hA a; intro a hA
     refine S.val hA (R.assign rfl) rfl ?_; clear hA a; intro a hA
     refine S.done ?_
     rw [hT.1] at hM
     replace hM : Mem _ _ [pt sb #[.int .i64 i.kind, .int .i64 i.n, .int .i64 i.cap, .slice ax3 i.wt.length cx3, .slice ax4 i.vl.length cx4, .slice ax5 i.cost.length cx5, .slice ya3 S2.1.length yc3, .int .i64 S2.2.1] 55, rd ya3 yc3 S2.1] _ := hM
     exact hNext1 ((j + 1, S2, ya3, yc3)) _ _ ((by show i.n.toNat - (frm i + m + 1 + (j + 1)) < i.n.toNat - (frm i + m + 1 + j); omega)) ⟨hA.sub ((.cons rfl (.cons rfl (.cons rfl (.cons rfl .nil))))), hM, (by omega), (by rw [innB, ← hS2]; exact hT.2.symm), hl2⟩
   ·
    have hje : j = i.n.toNat - 1 - (frm i + m) := by omega
    refine Ends.exit rfl ?_
    refine Ends.inBlock (Ends.region ?_)
    refine S.val hA (R.move rfl) rfl ?_; clear hA a; intro a hA
    refine S.val hA (R.addI rfl rfl (r := ((frm i + (m + 1) : Nat) : Int)) (by omega) (by omega)) rfl ?_; clear hA a; intro a hA
    refine S.val hA (R.assign rfl) rfl ?_; clear hA a; intro a hA
    refine S.done ?_
    replace hA : St 39 [(0, _), (4, _), (5, _)] a := hA.sub ((.cons rfl (.cons rfl (.cons rfl .nil))))
    exact hNext ((m + 1, S2, xa2, xc2)) _ _ ((by show i.n.toNat - (frm i + (m + 1)) < i.n.toNat - (frm i + m); omega)) ⟨hA.sub ((.cons rfl (.cons rfl (.cons rfl .nil)))), hM, (by omega), (by rw [othB, ← hS, ← hje]; exact hS2), hl2⟩
  ·
   refine Ends.exit rfl ?_
   refine Ends.seq (Ends.region ?_)
   refine S.val hA (R.move rfl) rfl ?_; clear hA a; intro a hA
   refine S.val hA (R.assign rfl) rfl ?_; clear hA a; intro a hA
   refine S.done ?_
   replace hA : St 39 [(2, _)] a := hA.sub ((.cons rfl .nil))
   refine Ends.ret1 Try.func50 Try.results50 hA rfl ?_
   have hT : S0 = rdB i X cc := by rw [hS, show m = i.n.toNat - frm i by omega]; rfl
   rw [← hT]
   exact ⟨_, _, rfl, hM⟩
 ·
  have hk3 := hc1
  have hfr : frm i = 0 := if_neg hk3
  refine Ends.skip (Ends.seq (Ends.region ?_))
  refine S.val hA (R.assign rfl) rfl ?_; clear hA a; intro a hA
  refine S.done ?_
  refine Ends.seq (Ends.seq (Ends.region ?_))
  refine S.val hA (R.move rfl) rfl ?_; clear hA a; intro a hA
  refine S.val hA (R.to (v := .int .i64 (((frm i + 0 : Nat) : Int))) (R.assign rfl) (congrArg (Value.int .i64) (by omega))) rfl ?_; clear hA a; intro a hA
  refine S.done ?_
  refine Ends.block ?_
  refine Ends.loop (σ := Nat × BS3 × Option Addr × Nat) (fun (m, S0, xa1, xc1) (a : Act) (wv : World) => St 39 [(0, .pointer (some ⟨sb, 0, none⟩)), (4, .bool S0.2.2), (5, .int .i64 (((frm i + m : Nat) : Int)))] a ∧ Mem w0 nof [pt sb #[.int .i64 i.kind, .int .i64 i.n, .int .i64 i.cap, .slice ax3 i.wt.length cx3, .slice ax4 i.vl.length cx4, .slice ax5 i.cost.length cx5, .slice xa1 S0.1.length xc1, .int .i64 S0.2.1] 55, rd xa1 xc1 S0.1] wv ∧ (frm i + m ≤ i.n.toNat) ∧ (S0 = othB (costI i) i (X, cc, false) m) ∧ (S0.1.length = i.n.toNat)) (fun (m, S0, xa1, xc1) => i.n.toNat - (frm i + m)) ((0, (X, cc, false), xa, xc)) ⟨hA.sub ((.cons rfl (.cons rfl (.cons rfl .nil)))), hM, (by omega), rfl, hXl⟩ ?_
  clear hA hM a
  rintro ⟨m, S0, xa1, xc1⟩ a w4 ⟨hA, hM, hm, hS, hl1⟩ hNext
  refine Ends.seq (Ends.seq (Ends.region ?_))
  refine S.val hA (R.move rfl) rfl ?_; clear hA a; intro a hA
  refine S.val hA (R.move rfl) rfl ?_; clear hA a; intro a hA
  refine S.val hA (R.nilCheck rfl) rfl ?_; clear hA a; intro a hA
  refine S.val hA (R.fieldAddr (q := 0) fi55_0 rfl rfl rfl) rfl ?_; clear hA a; intro a hA
  refine S.val hA (R.fieldAddr (q := 1) fi25_1 rfl rfl rfl) rfl ?_; clear hA a; intro a hA
  refine S.val hA (R.load sz3 rfl (hM.cell (k := 0) rfl rfl)) rfl ?_; clear hA a; intro a hA
  refine S.val hA (R.lss rfl rfl) rfl ?_; clear hA a; intro a hA
  refine S.done ?_
  replace hA : St 39 [(0, _), (4, _), (5, _), (20, _)] a := hA.sub ((.cons rfl (.cons rfl (.cons rfl (.cons rfl .nil)))))
  refine Ends.ite hA rfl (fun hc5 => ?_) (fun hc5 => ?_)
  ·
   refine Ends.skip (Ends.seq (Ends.block (Ends.seq (Ends.region ?_))))
   refine S.val hA (R.move rfl) rfl ?_; clear hA a; intro a hA
   refine S.val hA (R.addI rfl rfl (r := ((frm i + m + 1 + 0 : Nat) : Int)) (by omega) (by omega)) rfl ?_; clear hA a; intro a hA
   refine S.val hA (R.assign rfl) rfl ?_; clear hA a; intro a hA
   refine S.done ?_
   refine Ends.block ?_
   refine Ends.loop (σ := Nat × BS3 × Option Addr × Nat) (fun (j, S2, xa2, xc2) (a : Act) (wv : World) => St 39 [(0, .pointer (some ⟨sb, 0, none⟩)), (4, .bool S2.2.2), (5, .int .i64 (((frm i + m : Nat) : Int))), (6, .int .i64 (((frm i + m + 1 + j : Nat) : Int)))] a ∧ Mem w0 nof [pt sb #[.int .i64 i.kind, .int .i64 i.n, .int .i64 i.cap, .slice ax3 i.wt.length cx3, .slice ax4 i.vl.length cx4, .slice ax5 i.cost.length cx5, .slice xa2 S2.1.length xc2, .int .i64 S2.2.1] 55, rd xa2 xc2 S2.1] wv ∧ (frm i + m + 1 + j ≤ i.n.toNat) ∧ (S2 = innB (costI i) i S0 (frm i + m) j) ∧ (S2.1.length = i.n.toNat)) (fun (j, S2, xa2, xc2) => i.n.toNat - (frm i + m + 1 + j)) ((0, S0, xa1, xc1)) ⟨hA.sub ((.cons rfl (.cons rfl (.cons rfl (.cons rfl .nil))))), hM, (by omega), rfl, hl1⟩ ?_
   clear hA hM a
   rintro ⟨j, S2, xa2, xc2⟩ a w5 ⟨hA, hM, hj, hS2, hl2⟩ hNext1
   refine Ends.seq (Ends.seq (Ends.region ?_))
   refine S.val hA (R.move rfl) rfl ?_; clear hA a; intro a hA
   refine S.val hA (R.move rfl) rfl ?_; clear hA a; intro a hA
   refine S.val hA (R.nilCheck rfl) rfl ?_; clear hA a; intro a hA
   refine S.val hA (R.fieldAddr (q := 0) fi55_0 rfl rfl rfl) rfl ?_; clear hA a; intro a hA
   refine S.val hA (R.fieldAddr (q := 1) fi25_1 rfl rfl rfl) rfl ?_; clear hA a; intro a hA
   refine S.val hA (R.load sz3 rfl (hM.cell (k := 0) rfl rfl)) rfl ?_; clear hA a; intro a hA
   refine S.val hA (R.lss rfl rfl) rfl ?_; clear hA a; intro a hA
   refine S.done ?_
   replace hA : St 39 [(0, _), (4, _), (5, _), (6, _), (31, _)] a := hA.sub ((.cons rfl (.cons rfl (.cons rfl (.cons rfl (.cons rfl .nil))))))
   refine Ends.ite hA rfl (fun hc6 => ?_) (fun hc6 => ?_)
   ·
    refine Ends.skip (Ends.seq (Ends.block (Ends.seq (Ends.region ?_))))
    refine S.val hA (R.move rfl) rfl ?_; clear hA a; intro a hA
    refine S.val hA (R.move rfl) rfl ?_; clear hA a; intro a hA
    refine S.val hA (R.move rfl) rfl ?_; clear hA a; intro a hA
    refine S.call hA (R.callF Try.func66 rfl rfl rfl) rfl (change10 i ax3 cx3 ax4 cx4 ax5 cx5 sb xa2 xc2 S2.1 S2.2.1 (frm i + m) (frm i + m + 1 + j) hsm hF hl2 (by omega) (by omega) w0 _ hx3 hx4 hx5 hM) ?_; clear hA a
    rintro e w6 ⟨ya3, yc3, rfl, hn⟩
    replace hM : Mem _ _ [pt sb #[.int .i64 i.kind, .int .i64 i.n, .int .i64 i.cap, .slice ax3 i.wt.length cx3, .slice ax4 i.vl.length cx4, .slice ax5 i.cost.length cx5, .slice ya3 (((chB i S2.1 S2.2.1 (frm i + m) (frm i + m + 1 + j)).1).length) yc3, .int .i64 ((chB i S2.1 S2.2.1 (frm i + m) (frm i + m + 1 + j)).2.1)] 55, rd ya3 yc3 ((chB i S2.1 S2.2.1 (frm i + m) (frm i + m + 1 + j)).1)] _ := hn; clear hn
    refine ⟨.bool ((chB i S2.1 S2.2.1 (frm i + m) (frm i + m + 1 + j)).2.2), rfl, fun a hA => ?_⟩
    refine S.done ?_
    replace hA : St 39 [(0, _), (4, _), (5, _), (6, _), (37, _)] a := hA.sub ((.cons rfl (.cons rfl (.cons rfl (.cons rfl (.cons rfl .nil))))))
    refine Ends.iteB hA rfl (fun hc7 => ?_) (fun hc7 => ?_)
    ·
     have hT := chB_t hc7
     refine Ends.region ?_
     refine S.val hA (R.to (v := .bool ((chB i S2.1 S2.2.1 (frm i + m) (frm i + m + 1 + j)).2.2)) (R.assign rfl) (congrArg Value.bool hc7.symm)) rfl ?_; clear hA a; intro a hA
     refine S.done ?_
     refine Ends.inBlock (Ends.region ?_)
     refine S.val hA (R.move rfl) rfl ?_; clear hA a; intro a hA
     refine S.val hA (R.addI rfl rfl (r := ((frm i + m + 1 + (j + 1) : Nat) : Int)) (by omega) (by omega)) rfl ?_; clear hA a; intro a hA
     refine S.val hA (R.assign rfl) rfl ?_; clear hA a; intro a hA
     refine S.done ?_
     exact hNext1 ((j + 1, (chB i S2.1 S2.2.1 (frm i + m) (frm i + m + 1 + j)), ya3, yc3)) _ _ ((by show i.n.toNat - (frm i + m + 1 + (j + 1)) < i.n.toNat - (frm i + m + 1 + j); omega)) ⟨hA.sub ((.cons rfl (.cons rfl (.cons rfl (.cons rfl .nil))))), hM, (by omega), (by rw [innB, ← hS2]; exact hT.symm), (by rw [chB_len]; exact hl2)⟩
    ·
     have hT := chB_f hc7
     refine Ends.skip (Ends.inBlock (Ends.region ?_))
     refine S.val hA (R.move rfl) rfl ?_; clear hA a; intro a hA
     refine S.val hA (R.addI rfl rfl (r := ((frm i + m + 1 + (j + 1) : Nat) : Int)) (by omega) (by omega)) rfl ?_; clear hA a; intro a hA
     refine S.val hA (R.assign rfl) rfl ?_; clear hA a; intro a hA
     refine S.done ?_
     rw [hT.1] at hM
     replace hM : Mem _ _ [pt sb #[.int .i64 i.kind, .int .i64 i.n, .int .i64 i.cap, .slice ax3 i.wt.length cx3, .slice ax4 i.vl.length cx4, .slice ax5 i.cost.length cx5, .slice ya3 S2.1.length yc3, .int .i64 S2.2.1] 55, rd ya3 yc3 S2.1] _ := hM
     exact hNext1 ((j + 1, S2, ya3, yc3)) _ _ ((by show i.n.toNat - (frm i + m + 1 + (j + 1)) < i.n.toNat - (frm i + m + 1 + j); omega)) ⟨hA.sub ((.cons rfl (.cons rfl (.cons rfl (.cons rfl .nil))))), hM, (by omega), (by rw [innB, ← hS2]; exact hT.2.symm), hl2⟩
   ·
    have hje : j = i.n.toNat - 1 - (frm i + m) := by omega
    refine Ends.exit rfl ?_
    refine Ends.inBlock (Ends.region ?_)
    refine S.val hA (R.move rfl) rfl ?_; clear hA a; intro a hA
    refine S.val hA (R.addI rfl rfl (r := ((frm i + (m + 1) : Nat) : Int)) (by omega) (by omega)) rfl ?_; clear hA a; intro a hA
    refine S.val hA (R.assign rfl) rfl ?_; clear hA a; intro a hA
    refine S.done ?_
    replace hA : St 39 [(0, _), (4, _), (5, _)] a := hA.sub ((.cons rfl (.cons rfl (.cons rfl .nil))))
    exact hNext ((m + 1, S2, xa2, xc2)) _ _ ((by show i.n.toNat - (frm i + (m + 1)) < i.n.toNat - (frm i + m); omega)) ⟨hA.sub ((.cons rfl (.cons rfl (.cons rfl .nil)))), hM, (by omega), (by rw [othB, ← hS, ← hje]; exact hS2), hl2⟩
  ·
   refine Ends.exit rfl ?_
   refine Ends.seq (Ends.region ?_)
   refine S.val hA (R.move rfl) rfl ?_; clear hA a; intro a hA
   refine S.val hA (R.assign rfl) rfl ?_; clear hA a; intro a hA
   refine S.done ?_
   replace hA : St 39 [(2, _)] a := hA.sub ((.cons rfl .nil))
   refine Ends.ret1 Try.func50 Try.results50 hA rfl ?_
   have hT : S0 = rdB i X cc := by rw [hS, show m = i.n.toNat - frm i by omega]; rfl
   rw [← hT]
   exact ⟨_, _, rfl, hM⟩
theorem oth_len {i : Ins} (s : BS3) : ∀ m, (othB (costI i) i s m).1.length = s.1.length
  | 0 => rfl
  | m + 1 => by
    have h : ∀ (t : BS3) (p j : Nat), (innB (costI i) i t p j).1.length = t.1.length := fun t p j => by
      induction j with
      | zero => rfl
      | succ j ih =>
        rw [innB]
        by_cases g : (costI i (chg i (innB (costI i) i t p j).1 p (p + 1 + j))).2 = 0 ∧ (costI i (chg i (innB (costI i) i t p j).1 p (p + 1 + j))).1 < (innB (costI i) i t p j).2.1
        · rw [tr1_yes g]; show (chg _ _ _ _).length = _; rw [chg_len]; exact ih
        · rw [tr1_no g]; exact ih
    rw [othB, h]; exact oth_len s m
theorem rnds_len {i : Ins} {s : BS3} : ∀ r, (rndsB (costI i) i s r).1.length = s.1.length
  | 0 => rfl
  | r + 1 => by
    rw [rndsB]; split
    · exact (oth_len _ _).trans (rnds_len r)
    · exact rnds_len r
theorem betI_len {i : Ins} {x : List Int} (h : (costI i x).2 = 0) : (betI i x).length = i.n.toNat := by
  rw [betI_yes h]; exact (rnds_len 50).trans (cost_len h)
theorem rdlen10 {i : Ins} {x : List Int} {n : Nat} (h : x.length = n) (r : Nat) : (rndB (costI i) i (rndsB (costI i) i (x, (costI i x).1, true) r)).1.length = n := by
  have h1 := oth_len (i := i) (rndsB (costI i) i (x, (costI i x).1, true) r) (i.n.toNat - frm i)
  rw [rnds_len] at h1
  exact h1.trans h
set_option maxRecDepth 100000 in
set_option maxHeartbeats 400000 in
theorem better10F (i : Ins) (ax3 : Option Addr) (cx3 : Nat) (ax4 : Option Addr) (cx4 : Nat) (ax5 : Option Addr) (cx5 : Nat) (ay : Option Addr) (x : List Int) (cy : Nat) (hsm : i.wt.length ≤ 1000000 ∧ i.vl.length ≤ 1000000) (w : World) (hx3 : IntSl w (.slice ax3 i.wt.length cx3) i.wt) (hx4 : IntSl w (.slice ax4 i.vl.length cx4) i.vl) (hx5 : RowsV w (.slice ax5 i.cost.length cx5) i.cost) (hy : IntSl w (.slice ay x.length cy) x) :
  Calls Try.prog 29 #[.agg #[.int .i64 i.kind, .int .i64 i.n, .int .i64 i.cap, .slice ax3 i.wt.length cx3, .slice ax4 i.vl.length cx4, .slice ax5 i.cost.length cx5], .slice ay x.length cy] w fun e w' => ∃ a c, e = .returned (.tuple #[.slice a ((betI i x)).length c, .int .i64 ((costI i x).2)]) ∧ IntSl w' (.slice a ((betI i x)).length c) ((betI i x)) ∧ frs w.heap.size a ∧ Below w.heap.size w w' := by
 have hbs := Below.refl (B := w.heap.size) w
 have hM := Mem.start w
 refine Calls.of_ends (vs := [.agg #[.int .i64 i.kind, .int .i64 i.n, .int .i64 i.cap, .slice ax3 i.wt.length cx3, .slice ax4 i.vl.length cx4, .slice ax5 i.cost.length cx5], .slice ay x.length cy]) Try.func29 rfl Try.ntmps29 rfl ?_
 intro a hA
 replace hA : St 37 [(0, _), (1, _)] a := hA
 refine Ends.seq (Ends.region ?_)
 refine S.box hA hM rfl rfl ?_; clear hA hM a; intro b1 w1 hb2 hM a hA
 replace hM : Mem _ _ [pt b1 #[.int .i64 i.kind, .int .i64 i.n, .int .i64 i.cap, .slice ax3 i.wt.length cx3, .slice ax4 i.vl.length cx4, .slice ax5 i.cost.length cx5] 25] _ := hM
 refine S.val hA (R.assign rfl) rfl ?_; clear hA a; intro a hA
 refine S.val hA (R.assign rfl) rfl ?_; clear hA a; intro a hA
 refine S.done ?_
 refine Ends.seq (Ends.region ?_)
 refine S.val hA (R.loadA sz25 rfl (hM.range (k := 0) rfl) rfl) rfl ?_; clear hA a; intro a hA
 refine S.val hA (R.move rfl) rfl ?_; clear hA a; intro a hA
 refine S.call hA (R.callF Try.func17 rfl rfl rfl) rfl (cost08 i ax3 cx3 ax4 cx4 ax5 cx5 ay x cy hsm _ (hx3.mem hM) (hx4.mem hM) (hx5.mem hM) (hy.mem hM)) ?_; clear hA a
 rintro e w2 ⟨rfl, hb⟩
 replace hM := hM.callB hb; clear hb
 refine ⟨.tuple #[.int .i64 ((costI i x).1), .int .i64 ((costI i x).2)], rfl, fun a hA => ?_⟩
 refine S.val hA (R.move rfl) rfl ?_; clear hA a; intro a hA
 refine S.val hA (R.extract (v := .int .i64 ((costI i x).1)) rfl rfl) rfl ?_; clear hA a; intro a hA
 refine S.val hA (R.extract (v := .int .i64 ((costI i x).2)) rfl rfl) rfl ?_; clear hA a; intro a hA
 refine S.val hA (R.assign rfl) rfl ?_; clear hA a; intro a hA
 refine S.val hA (R.assign rfl) rfl ?_; clear hA a; intro a hA
 refine S.done ?_
 replace hA : St 37 [(1, _), (2, _), (6, _), (7, _)] a := hA.sub ((.cons rfl (.cons rfl (.cons rfl (.cons rfl .nil)))))
 refine Ends.seq (Ends.seq (Ends.region ?_))
 refine S.val hA (R.move rfl) rfl ?_; clear hA a; intro a hA
 refine S.val hA (R.neq rfl rfl) rfl ?_; clear hA a; intro a hA
 refine S.done ?_
 refine Ends.ite hA rfl (fun hc3 => ?_) (fun hc3 => ?_)
 ·
  have hz0 : ¬ (costI i x).2 = 0 := hc3
  refine Ends.seq (Ends.region ?_)
  refine S.val hA (R.move rfl) rfl ?_; clear hA a; intro a hA
  refine S.val hA (R.assign rfl) rfl ?_; clear hA a; intro a hA
  refine S.val hA (R.assign rfl) rfl ?_; clear hA a; intro a hA
  refine S.done ?_
  replace hA : St 37 [(1, _), (2, _), (4, _), (5, _), (6, _)] a := hA.sub ((.cons rfl (.cons rfl (.cons rfl (.cons rfl (.cons rfl .nil))))))
  refine Ends.ret2 Try.func29 Try.results29 hA rfl rfl ?_
  rw [betI_no hz0]
  exact ⟨none, 0, rfl, IntSl.nil _, (fun p hp => by cases hp), Mem.trans0 hbs hM.nilL⟩
 ·
  have hz0 : (costI i x).2 = 0 := Decidable.not_not.1 hc3
  have hz := costI_chk hz0
  have hF := chk_inF hz
  have hlx9 := cost_len hz0
  have f1 := hF.n1
  have f3 := hF.n64
  refine Ends.skip (Ends.seq ?_)
  refine Ends.drawn (Mem w nof [pt b1 #[.int .i64 i.kind, .int .i64 i.n, .int .i64 i.cap, .slice ax3 i.wt.length cx3, .slice ax4 i.vl.length cx4, .slice ax5 i.cost.length cx5] 25]) (.cons (0, true) (.cons (1, true) (.cons (3, true) (.cons (2, false) (.cons (4, true) (.cons (5, false) (.cons (6, true) .nil))))))) 7 mixed (by kernel_rfl) (by kernel_rfl) (by kernel_rfl) hM.drew ?_
  replace hM := hM.drew
  refine D.val hA rfl (by kernel_rfl) (fun _ hM => R.loadA sz25 rfl (hM.range (k := 0) rfl) rfl) rfl ?_; clear hA a; intro a hA
  refine D.valF hA rfl (fun _ => R.move rfl) rfl ?_; clear hA a; intro a hA
  refine D.valF hA rfl (fun _ => R.move rfl) rfl ?_; clear hA a; intro a hA
  refine D.call hA rfl (R.callF Try.func49 rfl rfl rfl) rfl (clone09 ay x cy (by omega) _ (hy.mem hM)) ?_; clear hA a
  rintro e w3 ⟨ga, gc, rfl, hn⟩
  replace hM : Mem _ _ [own 3 1 (.slice ga x.length gc) x.length (x.map (Value.int .i64)), pt b1 #[.int .i64 i.kind, .int .i64 i.n, .int .i64 i.cap, .slice ax3 i.wt.length cx3, .slice ax4 i.vl.length cx4, .slice ax5 i.cost.length cx5] 25] _ := hM.call hn; clear hn
  refine ⟨.slice ga x.length gc, rfl, (hM.drop 0), fun a hA => ?_⟩
  refine D.valF hA rfl (fun _ => R.build (cells := #[.int .i64 i.kind, .int .i64 i.n, .int .i64 i.cap, .slice ax3 i.wt.length cx3, .slice ax4 i.vl.length cx4, .slice ax5 i.cost.length cx5, .slice ga x.length gc, .int .i64 ((costI i x).1)]) rfl (by kernel_rfl)) rfl ?_; clear hA a; intro a hA
  refine D.box hA hM rfl rfl rfl ?_; clear hA hM a; intro b4 w4 hb5 hM; refine ⟨(fun hM => (hM.drop 0)) hM.tail, fun a hA => ?_⟩
  replace hM : Mem _ _ [pt b4 #[.int .i64 i.kind, .int .i64 i.n, .int .i64 i.cap, .slice ax3 i.wt.length cx3, .slice ax4 i.vl.length cx4, .slice ax5 i.cost.length cx5, .slice ga x.length gc, .int .i64 ((costI i x).1)] 55, own 3 1 (.slice ga x.length gc) x.length (x.map (Value.int .i64)), pt b1 #[.int .i64 i.kind, .int .i64 i.n, .int .i64 i.cap, .slice ax3 i.wt.length cx3, .slice ax4 i.vl.length cx4, .slice ax5 i.cost.length cx5] 25] _ := hM
  refine D.valF hA rfl (fun _ => R.assign rfl) rfl ?_; clear hA a; intro a hA
  refine D.done ?_
  replace hM := hM.front (k := 1) rfl
  replace hM := hM.ownRd
  replace hM : Mem _ _ [rd ga gc x, pt b4 #[.int .i64 i.kind, .int .i64 i.n, .int .i64 i.cap, .slice ax3 i.wt.length cx3, .slice ax4 i.vl.length cx4, .slice ax5 i.cost.length cx5, .slice ga x.length gc, .int .i64 ((costI i x).1)] 55, pt b1 #[.int .i64 i.kind, .int .i64 i.n, .int .i64 i.cap, .slice ax3 i.wt.length cx3, .slice ax4 i.vl.length cx4, .slice ax5 i.cost.length cx5] 25] _ := hM
  replace hM := hM.front (k := 1) rfl
  replace hM := hM.firstN 2
  replace hM : Mem _ _ [pt b4 #[.int .i64 i.kind, .int .i64 i.n, .int .i64 i.cap, .slice ax3 i.wt.length cx3, .slice ax4 i.vl.length cx4, .slice ax5 i.cost.length cx5, .slice ga x.length gc, .int .i64 ((costI i x).1)] 55, rd ga gc x] _ := hM
  obtain ⟨sb, hsb⟩ : ∃ sb, sb = b4 := ⟨_, rfl⟩
  rw [← hsb] at hM hA
  replace hM : Mem _ _ [pt sb #[.int .i64 i.kind, .int .i64 i.n, .int .i64 i.cap, .slice ax3 i.wt.length cx3, .slice ax4 i.vl.length cx4, .slice ax5 i.cost.length cx5, .slice ga x.length gc, .int .i64 ((costI i x).1)] 55, rd ga gc x] _ := hM
  replace hA : St 37 [(8, _)] a := hA.sub ((.cons rfl .nil))
  refine Ends.seq (Ends.seq (Ends.region ?_))
  refine S.val hA (R.assign rfl) rfl ?_; clear hA a; intro a hA
  refine S.done ?_
  refine Ends.block ?_
  refine Ends.loop (σ := Nat × BS3 × Option Addr × Nat) (fun (r, S0, xa1, xc1) (a : Act) (wv : World) => St 37 [(8, .pointer (some ⟨sb, 0, none⟩)), (9, .int .i64 ((r : Int)))] a ∧ Mem w nof [pt sb #[.int .i64 i.kind, .int .i64 i.n, .int .i64 i.cap, .slice ax3 i.wt.length cx3, .slice ax4 i.vl.length cx4, .slice ax5 i.cost.length cx5, .slice xa1 S0.1.length xc1, .int .i64 S0.2.1] 55, rd xa1 xc1 S0.1] wv ∧ (r ≤ 50) ∧ (S0 = rndsB (costI i) i (x, (costI i x).1, true) r) ∧ (S0.1.length = i.n.toNat) ∧ (S0.2.2 = true)) (fun (r, S0, xa1, xc1) => 50 - r) ((0, (x, (costI i x).1, true), ga, gc)) ⟨hA.sub ((.cons rfl (.cons rfl .nil))), hM, (by omega), rfl, hlx9, rfl⟩ ?_
  clear hA hM a
  rintro ⟨r, S0, xa1, xc1⟩ a w5 ⟨hA, hM, hr, hS, hl1, hfl9⟩ hNext
  refine Ends.seq (Ends.seq ?_)
  by_cases hs6 : r < 50
  ·
   refine Ends.region ?_
   refine S.val hA (R.move rfl) rfl ?_; clear hA a; intro a hA
   refine S.val hA (R.tt (R.lss rfl rfl) (by omega)) rfl ?_; clear hA a; intro a hA
   refine S.val hA (R.move rfl) rfl ?_; clear hA a; intro a hA
   refine S.valg (dj := 27) hA (by kernel_rfl) rfl (R.move rfl) rfl ?_; clear hA a; intro a hA
   refine S.callg (dj := 27) hA (by kernel_rfl) rfl (R.callF Try.func50 rfl rfl rfl) rfl (round10 i ax3 cx3 ax4 cx4 ax5 cx5 sb xa1 xc1 S0.1 S0.2.1 hsm hF hl1 w _ hx3 hx4 hx5 hM) ?_; clear hA a
   rintro e w6 ⟨ya3, yc3, rfl, hn⟩
   replace hM : Mem _ _ [pt sb #[.int .i64 i.kind, .int .i64 i.n, .int .i64 i.cap, .slice ax3 i.wt.length cx3, .slice ax4 i.vl.length cx4, .slice ax5 i.cost.length cx5, .slice ya3 (((rdB i S0.1 S0.2.1).1).length) yc3, .int .i64 ((rdB i S0.1 S0.2.1).2.1)] 55, rd ya3 yc3 ((rdB i S0.1 S0.2.1).1)] _ := hn; clear hn
   refine ⟨.bool ((rdB i S0.1 S0.2.1).2.2), rfl, fun a hA => ?_⟩
   refine S.val hA (R.pickT rfl rfl) rfl ?_; clear hA a; intro a hA
   refine S.done ?_
   replace hA : St 37 [(8, _), (9, _), (30, _)] a := hA.sub ((.cons rfl (.cons rfl (.cons rfl .nil))))
   refine Ends.iteB hA rfl (fun hc7 => ?_) (fun hc7 => ?_)
   ·
    have hl4 : (rdB i S0.1 S0.2.1).1.length = i.n.toNat := by rw [rdB_eq, hS]; exact rdlen10 hlx9 r
    refine Ends.skip (Ends.seq (Ends.block (Ends.skip (Ends.inBlock (Ends.region ?_)))))
    refine S.val hA (R.move rfl) rfl ?_; clear hA a; intro a hA
    refine S.val hA (R.addI rfl rfl (r := ((r : Int)) + 1) rfl (by omega)) rfl ?_; clear hA a; intro a hA
    refine S.val hA (R.assign rfl) rfl ?_; clear hA a; intro a hA
    refine S.done ?_
    exact hNext ((r + 1, (rdB i S0.1 S0.2.1), ya3, yc3)) _ _ ((by show 50 - (r + 1) < 50 - r; omega)) ⟨hA.sub ((.cons rfl (.cons rfl .nil))), hM, (by omega), (by rw [rnds_go (by rw [← hS]; exact hfl9), ← hS]; exact rdB_eq i S0), hl4, hc7⟩
   ·
    refine Ends.exit rfl ?_
    refine Ends.seq (Ends.region ?_)
    refine S.val hA (R.move rfl) rfl ?_; clear hA a; intro a hA
    refine S.val hA (R.nilCheck rfl) rfl ?_; clear hA a; intro a hA
    refine S.val hA (R.fieldAddr (q := 6) fi55_1 rfl rfl rfl) rfl ?_; clear hA a; intro a hA
    refine S.val hA (R.load sz22 rfl (hM.cell (k := 0) rfl rfl)) rfl ?_; clear hA a; intro a hA
    refine S.val hA (R.assign rfl) rfl ?_; clear hA a; intro a hA
    refine S.val hA (R.assign rfl) rfl ?_; clear hA a; intro a hA
    refine S.done ?_
    replace hA : St 37 [(4, _), (5, _)] a := hA.sub ((.cons rfl (.cons rfl .nil)))
    refine Ends.ret2 Try.func29 Try.results29 hA rfl rfl ?_
    have hnx : (rdB i S0.1 S0.2.1) = rndsB (costI i) i (x, (costI i x).1, true) (r + 1) := by rw [rnds_go (by rw [← hS]; exact hfl9), ← hS]; exact rdB_eq i S0
    have hfin : (rdB i S0.1 S0.2.1).1 = betI i x := by rw [betI_yes hz0]; rw [hnx, rnds_all (.inr (by rw [← hnx, hc7]; decide)) (by omega)]; rfl
    have hr9 := hM.rd (k := 1) rfl
    have hf9 := hM.rdFresh (k := 1) rfl (fun e9 => by rw [hfin] at e9; have h8 := betI_len hz0; rw [e9] at h8; simp at h8; omega)
    rw [hfin] at hr9 ⊢
    rw [hz0]
    exact ⟨_, _, rfl, hr9, hf9, Mem.trans0 hbs hM.nilL⟩
  ·
   refine Ends.region ?_
   refine S.val hA (R.move rfl) rfl ?_; clear hA a; intro a hA
   refine S.val hA (R.ff (R.lss rfl rfl) (by omega)) rfl ?_; clear hA a; intro a hA
   refine S.val hA (R.move rfl) rfl ?_; clear hA a; intro a hA
   refine S.no (dj := 27) hA (by kernel_rfl) rfl rfl rfl ?_; clear hA a; intro a hA
   refine S.no (dj := 27) hA (by kernel_rfl) rfl rfl rfl ?_; clear hA a; intro a hA
   refine S.val hA (R.pickF rfl rfl) rfl ?_; clear hA a; intro a hA
   refine S.done ?_
   replace hA : St 37 [(8, _), (9, _), (30, _)] a := hA.sub ((.cons rfl (.cons rfl (.cons rfl .nil))))
   refine Ends.condF hA rfl ?_
   refine Ends.exit rfl ?_
   refine Ends.seq (Ends.region ?_)
   refine S.val hA (R.move rfl) rfl ?_; clear hA a; intro a hA
   refine S.val hA (R.nilCheck rfl) rfl ?_; clear hA a; intro a hA
   refine S.val hA (R.fieldAddr (q := 6) fi55_1 rfl rfl rfl) rfl ?_; clear hA a; intro a hA
   refine S.val hA (R.load sz22 rfl (hM.cell (k := 0) rfl rfl)) rfl ?_; clear hA a; intro a hA
   refine S.val hA (R.assign rfl) rfl ?_; clear hA a; intro a hA
   refine S.val hA (R.assign rfl) rfl ?_; clear hA a; intro a hA
   refine S.done ?_
   replace hA : St 37 [(4, _), (5, _)] a := hA.sub ((.cons rfl (.cons rfl .nil)))
   refine Ends.ret2 Try.func29 Try.results29 hA rfl rfl ?_
   have hfin : S0.1 = betI i x := by rw [betI_yes hz0, hS, rnds_all (.inl (by omega)) hr]; rfl
   have hr9 := hM.rd (k := 1) rfl
   have hf9 := hM.rdFresh (k := 1) rfl (fun e9 => by rw [hfin] at e9; have h8 := betI_len hz0; rw [e9] at h8; simp at h8; omega)
   rw [hfin] at hr9 ⊢
   rw [hz0]
   exact ⟨_, _, rfl, hr9, hf9, Mem.trans0 hbs hM.nilL⟩
theorem better10 (i : Ins) (ax3 : Option Addr) (cx3 : Nat) (ax4 : Option Addr) (cx4 : Nat) (ax5 : Option Addr) (cx5 : Nat) (ay : Option Addr) (x : List Int) (cy : Nat) (hsm : i.wt.length ≤ 1000000 ∧ i.vl.length ≤ 1000000) (w : World) (hx3 : IntSl w (.slice ax3 i.wt.length cx3) i.wt) (hx4 : IntSl w (.slice ax4 i.vl.length cx4) i.vl) (hx5 : RowsV w (.slice ax5 i.cost.length cx5) i.cost) (hy : IntSl w (.slice ay x.length cy) x) : Calls Try.prog 29 #[.agg #[.int .i64 i.kind, .int .i64 i.n, .int .i64 i.cap, .slice ax3 i.wt.length cx3, .slice ax4 i.vl.length cx4, .slice ax5 i.cost.length cx5], .slice ay x.length cy] w (fun e w' => ∃ a c, e = .returned (.tuple #[.slice a ((betI i x)).length c, .int .i64 ((costI i x).2)]) ∧ IntSl w' (.slice a ((betI i x)).length c) ((betI i x)) ∧ Below w.heap.size w w') :=
  (better10F i ax3 cx3 ax4 cx4 ax5 cx5 ay x cy hsm w hx3 hx4 hx5 hy).mono fun e w' ⟨g, c, h1, h2, _, h3⟩ => ⟨g, c, h1, h2, h3⟩
def staI (i : Ins) : List Int × Int × Int := if chk i ≠ 0 then ([], 0, chk i) else (betI i (frI i), (costI i (betI i (frI i))).1, 0)
theorem staI_no {i : Ins} (h : ¬ chk i = 0) : staI i = ([], 0, chk i) := if_pos h
theorem staI_yes {i : Ins} (h : chk i = 0) : staI i = (betI i (frI i), (costI i (betI i (frI i))).1, 0) := if_neg (not_not_intro h)
theorem bet_cost {i : Ins} {x : List Int} (h : (costI i x).2 = 0) : (costI i (betI i x)).2 = 0 ∧ (costI i (betI i x)).1 ≤ (costI i x).1 ∧ (betI i x).length = i.n.toNat := by
  rw [betI_yes h]
  have h1 := betB_ok (C := costI i) (i := i) (x := x) rfl h
  exact ⟨h1.2.1, h1.2.2, h1.1.trans (cost_len h)⟩
set_option maxRecDepth 100000 in
set_option maxHeartbeats 400000 in
theorem start10 (i : Ins) (ax3 : Option Addr) (cx3 : Nat) (ax4 : Option Addr) (cx4 : Nat) (ax5 : Option Addr) (cx5 : Nat) (hsm : i.wt.length ≤ 1000000 ∧ i.vl.length ≤ 1000000) (w : World) (hx3 : IntSl w (.slice ax3 i.wt.length cx3) i.wt) (hx4 : IntSl w (.slice ax4 i.vl.length cx4) i.vl) (hx5 : RowsV w (.slice ax5 i.cost.length cx5) i.cost) :
  Calls Try.prog 31 #[.agg #[.int .i64 i.kind, .int .i64 i.n, .int .i64 i.cap, .slice ax3 i.wt.length cx3, .slice ax4 i.vl.length cx4, .slice ax5 i.cost.length cx5]] w fun e w' => ∃ a c, e = .returned (.tuple #[.slice a (staI i).1.length c, .int .i64 (staI i).2.1, .int .i64 (staI i).2.2]) ∧ IntSl w' (.slice a (staI i).1.length c) (staI i).1 ∧ Below w.heap.size w w' := by
 have hbs := Below.refl (B := w.heap.size) w
 have hM := Mem.start w
 refine Calls.of_ends (vs := [.agg #[.int .i64 i.kind, .int .i64 i.n, .int .i64 i.cap, .slice ax3 i.wt.length cx3, .slice ax4 i.vl.length cx4, .slice ax5 i.cost.length cx5]]) Try.func31 rfl Try.ntmps31 rfl ?_
 intro a hA
 replace hA : St 34 [(0, _)] a := hA
 refine Ends.seq (Ends.region ?_)
 refine S.box hA hM rfl rfl ?_; clear hA hM a; intro b1 w1 hb2 hM a hA
 replace hM : Mem _ _ [pt b1 #[.int .i64 i.kind, .int .i64 i.n, .int .i64 i.cap, .slice ax3 i.wt.length cx3, .slice ax4 i.vl.length cx4, .slice ax5 i.cost.length cx5] 25] _ := hM
 refine S.val hA (R.assign rfl) rfl ?_; clear hA a; intro a hA
 refine S.val hA (R.assign rfl) rfl ?_; clear hA a; intro a hA
 refine S.val hA (R.assign rfl) rfl ?_; clear hA a; intro a hA
 refine S.done ?_
 replace hA : St 34 [(1, _)] a := hA.sub ((.cons rfl .nil))
 refine Ends.seq (Ends.region ?_)
 refine S.val hA (R.loadA sz25 rfl (hM.range (k := 0) rfl) rfl) rfl ?_; clear hA a; intro a hA
 refine S.call hA (R.callF Try.func24 rfl rfl rfl) rfl (first10 i ax3 cx3 ax4 cx4 ax5 cx5 hsm _ (hx3.mem hM) (hx4.mem hM) (hx5.mem hM)) ?_; clear hA a
 rintro e w2 ⟨ra3, rc4, rfl, rh5, hb⟩
 replace hM := hM.callB hb; clear hb
 have hbx6 := hM.block (k := 0) rfl
 have hbs := hbs.trans (hM.below.mono hbs.size)
 have hx3 := hx3.mem hM
 have hx4 := hx4.mem hM
 have hx5 := hx5.mem hM
 replace hM := Mem.start w2
 refine ⟨.tuple #[.slice ra3 (((frI i)).length) rc4, .int .i64 (chk i)], rfl, fun a hA => ?_⟩
 refine S.val hA (R.move rfl) rfl ?_; clear hA a; intro a hA
 refine S.val hA (R.extract (v := .slice ra3 (((frI i)).length) rc4) rfl rfl) rfl ?_; clear hA a; intro a hA
 refine S.val hA (R.extract (v := .int .i64 (chk i)) rfl rfl) rfl ?_; clear hA a; intro a hA
 refine S.val hA (R.assign rfl) rfl ?_; clear hA a; intro a hA
 refine S.val hA (R.assign rfl) rfl ?_; clear hA a; intro a hA
 refine S.done ?_
 replace hA : St 34 [(1, _), (5, _), (6, _)] a := hA.sub ((.cons rfl (.cons rfl (.cons rfl .nil))))
 refine Ends.seq (Ends.seq (Ends.region ?_))
 refine S.val hA (R.move rfl) rfl ?_; clear hA a; intro a hA
 refine S.val hA (R.neq rfl rfl) rfl ?_; clear hA a; intro a hA
 refine S.done ?_
 refine Ends.ite hA rfl (fun hc7 => ?_) (fun hc7 => ?_)
 ·
  have hz : ¬ chk i = 0 := hc7
  refine Ends.seq (Ends.region ?_)
  refine S.val hA (R.move rfl) rfl ?_; clear hA a; intro a hA
  refine S.val hA (R.assign rfl) rfl ?_; clear hA a; intro a hA
  refine S.val hA (R.assign rfl) rfl ?_; clear hA a; intro a hA
  refine S.val hA (R.assign rfl) rfl ?_; clear hA a; intro a hA
  refine S.done ?_
  replace hA : St 34 [(1, _), (2, _), (3, _), (4, _), (5, _)] a := hA.sub ((.cons rfl (.cons rfl (.cons rfl (.cons rfl (.cons rfl .nil))))))
  refine Ends.ret3 Try.func31 Try.results31 hA rfl rfl rfl ?_
  rw [staI_no hz]
  exact ⟨none, 0, rfl, IntSl.nil _, Mem.trans0 hbs hM.nilL⟩
 ·
  have hz : chk i = 0 := Decidable.not_not.1 hc7
  have hfc := frI_cost hz
  have hbc := bet_cost hfc
  refine Ends.skip (Ends.seq (Ends.seq (Ends.region ?_)))
  refine S.val hA (R.loadA sz25 rfl (hM.oldRange hbx6) rfl) rfl ?_; clear hA a; intro a hA
  refine S.val hA (R.move rfl) rfl ?_; clear hA a; intro a hA
  refine S.call hA (R.callF Try.func29 rfl rfl rfl) rfl (better10 i ax3 cx3 ax4 cx4 ax5 cx5 ra3 ((frI i)) rc4 hsm _ (hx3.mem hM) (hx4.mem hM) (hx5.mem hM) (rh5.mem hM)) ?_; clear hA a
  rintro e w3 ⟨ra8, rc9, rfl, rh10, hb⟩
  replace hM := hM.callB hb; clear hb
  have hbs := hbs.trans (hM.below.mono hbs.size)
  have hx3 := hx3.mem hM
  have hx4 := hx4.mem hM
  have hx5 := hx5.mem hM
  have rh5 := rh5.mem hM
  have hbx6 := hM.keepB hbx6
  replace hM := Mem.start w3
  refine ⟨.tuple #[.slice ra8 (((betI i ((frI i)))).length) rc9, .int .i64 ((costI i ((frI i))).2)], rfl, fun a hA => ?_⟩
  refine S.val hA (R.move rfl) rfl ?_; clear hA a; intro a hA
  refine S.val hA (R.extract (v := .slice ra8 (((betI i ((frI i)))).length) rc9) rfl rfl) rfl ?_; clear hA a; intro a hA
  refine S.val hA (R.extract (v := .int .i64 ((costI i ((frI i))).2)) rfl rfl) rfl ?_; clear hA a; intro a hA
  refine S.val hA (R.assign rfl) rfl ?_; clear hA a; intro a hA
  refine S.val hA (R.assign rfl) rfl ?_; clear hA a; intro a hA
  refine S.done ?_
  replace hA : St 34 [(1, _), (5, _), (6, _)] a := hA.sub ((.cons rfl (.cons rfl (.cons rfl .nil))))
  refine Ends.seq (Ends.region ?_)
  refine S.val hA (R.move rfl) rfl ?_; clear hA a; intro a hA
  refine S.val hA (R.neq rfl rfl) rfl ?_; clear hA a; intro a hA
  refine S.done ?_
  refine Ends.ite hA rfl (fun hc11 => ?_) (fun hc11 => ?_)
  · exact absurd hfc hc11
  ·
   refine Ends.skip (Ends.seq (Ends.region ?_))
   refine S.val hA (R.loadA sz25 rfl (hM.oldRange hbx6) rfl) rfl ?_; clear hA a; intro a hA
   refine S.val hA (R.move rfl) rfl ?_; clear hA a; intro a hA
   refine S.call hA (R.callF Try.func17 rfl rfl rfl) rfl (cost08 i ax3 cx3 ax4 cx4 ax5 cx5 ra8 ((betI i ((frI i)))) rc9 hsm _ (hx3.mem hM) (hx4.mem hM) (hx5.mem hM) (rh10.mem hM)) ?_; clear hA a
   rintro e w4 ⟨rfl, hb⟩
   replace hM := hM.callB hb; clear hb
   refine ⟨.tuple #[.int .i64 ((costI i ((betI i ((frI i))))).1), .int .i64 ((costI i ((betI i ((frI i))))).2)], rfl, fun a hA => ?_⟩
   refine S.val hA (R.move rfl) rfl ?_; clear hA a; intro a hA
   refine S.val hA (R.extract (v := .int .i64 ((costI i ((betI i ((frI i))))).1)) rfl rfl) rfl ?_; clear hA a; intro a hA
   refine S.val hA (R.extract (v := .int .i64 ((costI i ((betI i ((frI i))))).2)) rfl rfl) rfl ?_; clear hA a; intro a hA
   refine S.val hA (R.assign rfl) rfl ?_; clear hA a; intro a hA
   refine S.val hA (R.assign rfl) rfl ?_; clear hA a; intro a hA
   refine S.done ?_
   replace hA : St 34 [(5, _), (6, _), (7, _)] a := hA.sub ((.cons rfl (.cons rfl (.cons rfl .nil))))
   refine Ends.seq (Ends.region ?_)
   refine S.val hA (R.move rfl) rfl ?_; clear hA a; intro a hA
   refine S.val hA (R.move rfl) rfl ?_; clear hA a; intro a hA
   refine S.val hA (R.move rfl) rfl ?_; clear hA a; intro a hA
   refine S.val hA (R.assign rfl) rfl ?_; clear hA a; intro a hA
   refine S.val hA (R.assign rfl) rfl ?_; clear hA a; intro a hA
   refine S.val hA (R.assign rfl) rfl ?_; clear hA a; intro a hA
   refine S.done ?_
   replace hA : St 34 [(2, _), (3, _), (4, _)] a := hA.sub ((.cons rfl (.cons rfl (.cons rfl .nil))))
   refine Ends.ret3 Try.func31 Try.results31 hA rfl rfl rfl ?_
   rw [staI_yes hz]
   exact ⟨_, _, by rw [hbc.1], rh10.mem hM, Mem.trans0 hbs hM.nilL⟩
end Go.Proofs.Ytnikajkklocncaa
namespace Go.Proofs.Ytnikajkklocncaa
open Go.RowKit Go.WideShapes Go.ChangeShapes Go.Deep
section
variable {H : Type} {enc : TypeId × Value → H} {P : Program} {w : World}
theorem trod_ints {t e : TypeId} {fuel : Nat} {cs : List Value} {x : DataW H × List MemPlace} {held : Bool} (ht : P.underlying t = some (.slice e)) (he : P.underlying e = some (.int .i64)) (hce : P.cellsOf e = 1)
    (h : DataW.trod enc P w 0 (fun _ => true) held fuel t cs = some x) : ∃ (u : Value) (l : List Int), cs = [u] ∧ IntSl w u l ∧ ∀ y ∈ l, (Lit.int .i64 y).wf = true := by
  rcases open_ints ht he hce h with ⟨hcs, _⟩ | ⟨x, len, cap, zs, hcs, _, hl, hm, hz, _, hcell, hwz⟩
  · exact ⟨_, [], hcs, IntSl.nil w, fun x hx => by cases hx⟩
  · simp only [if_true] at hz
    refine ⟨_, zs.take len, hcs, ⟨some x, cap, by rw [List.length_take, Nat.min_eq_left (by omega)], by rw [List.length_take]; omega, hm, (fun h => nomatch h), fun hne => ?_⟩, fun y hy => hwz y (List.mem_of_mem_take hy)⟩
    have h0 : 0 < zs.length ∧ 0 < len := by
      rcases Nat.eq_zero_or_pos len with e | e
      · subst e; simp at hne
      · exact ⟨by omega, e⟩
    obtain ⟨b, off, spot⟩ := x
    have hs : spot = none := by
      have h1 := hcell 0 h0.1
      unfold Addr.add at h1
      simp only [if_true] at h1
      cases spot with
      | none => rfl
      | some s =>
        unfold World.cell? at h1
        split at h1 <;> simp at h1
    subst hs
    refine ⟨b, off, rfl, ?_, fun i hi => ?_⟩
    · have h1 := hcell 0 h0.1
      exact World.block_lt_of_cell? w _ h1
    · rw [List.length_take] at hi
      have h1 := hcell i (by omega)
      rw [Addr.add_lit] at h1
      rw [h1]
      congr 2
      simp only [List.getD_eq_getElem?_getD, List.getElem?_take]
      rw [if_pos (by omega)]
theorem trod_rows {t e f : TypeId} {fuel : Nat} {cs : List Value} {x : DataW H × List MemPlace} {held : Bool} (ht : P.underlying t = some (.slice e)) (hu : P.underlying e = some (.slice f)) (hc1 : P.cellsOf e = 1) (he : P.underlying f = some (.int .i64)) (hce : P.cellsOf f = 1)
  (h : DataW.trod enc P w 0 (fun _ => true) held fuel t cs = some x) : ∃ (u : Value) (R : List (List Int)), cs = [u] ∧ RowsV w u R ∧ ∀ r ∈ R, ∀ y ∈ r, (Lit.int .i64 y).wf = true := by
 rcases open_slice ht h with ⟨hcs, _⟩ | ⟨x, len, cap, m, nn, D, Pl, hcs, hb, hl, hm, hmm, -, hx⟩
 · exact ⟨_, [], hcs, RowsV.nil w, fun x hx => by cases hx⟩
 ·
  simp only [if_true] at hmm
  subst hmm
  have each : ∀ i, i < len → ∃ (u : Value) (l : List Int), w.cell? (x.add i) = some u ∧ IntSl w u l ∧ ∀ y ∈ l, (Lit.int .i64 y).wf = true := by
   intro i hi
   obtain ⟨cs', h1, h2⟩ := hx i (by omega)
   obtain ⟨u, l, rfl, h3, h4⟩ := trod_ints hu he hce h2
   rw [hc1, Nat.mul_one] at h1
   obtain ⟨-, hlen, hcell⟩ := World.cells?_some h1
   have h5 := hcell 0 (by omega)
   refine ⟨u, l, ?_, h3, h4⟩
   have e0 : (x.add i).add 0 = x.add i := by simp [Addr.add]
   rw [e0] at h5
   rw [h5]; rfl
  rcases Nat.eq_zero_or_pos len with e0 | e0
  ·
   subst e0
   exact ⟨_, [], hcs, ⟨some x, _, rfl, hl, hm, (fun h => nomatch h), fun h => absurd rfl h⟩, fun x hx => by cases hx⟩
  let f : Nat → List Int := fun i => if hi : i < len then Classical.choose (Classical.choose_spec (each i hi)) else []
  have hf : ∀ i, i < len → ∃ u, w.cell? (x.add i) = some u ∧ IntSl w u (f i) ∧ ∀ y ∈ f i, (Lit.int .i64 y).wf = true := fun i hi => by
   refine ⟨Classical.choose (each i hi), ?_⟩
   have := Classical.choose_spec (Classical.choose_spec (each i hi))
   simp only [f, hi, dif_pos]
   exact this
  have hlen : ((List.range len).map f).length = len := by simp
  obtain ⟨b, off, spot⟩ := x
  have hs : spot = none := by
   obtain ⟨u, h1, -⟩ := hf 0 e0
   unfold Addr.add at h1
   cases spot with
   | none => rfl
   | some s =>
    unfold World.cell? at h1
    split at h1 <;> simp at h1
  subst hs
  refine ⟨_, (List.range len).map f, hcs, ⟨some ⟨b, off, none⟩, _, by rw [hlen], by rw [hlen]; exact hl, hm, (fun h => nomatch h), fun _ => ⟨b, off, rfl, ?_, fun i hi => ?_⟩⟩, fun r hr => ?_⟩
  ·
   obtain ⟨u, h1, -⟩ := hf 0 e0
   exact World.block_lt_of_cell? w _ h1
  ·
   rw [hlen] at hi
   obtain ⟨u, h1, h2, -⟩ := hf i hi
   rw [Addr.add_lit] at h1
   refine ⟨u, h1, ?_⟩
   rw [show ((List.range len).map f).getD i [] = f i by simp [List.getD, hi]]
   exact h2
  ·
   obtain ⟨i, hi, rfl⟩ := List.mem_map.1 hr
   obtain ⟨u, -, -, h3⟩ := hf i (List.mem_range.1 hi)
   exact h3
def wfI (i : Ins) : Prop := (Lit.int .i64 i.kind).wf = true ∧ (Lit.int .i64 i.n).wf = true ∧ (Lit.int .i64 i.cap).wf = true ∧ (∀ y ∈ i.wt, (Lit.int .i64 y).wf = true) ∧ (∀ y ∈ i.vl, (Lit.int .i64 y).wf = true) ∧ ∀ r ∈ i.cost, ∀ y ∈ r, (Lit.int .i64 y).wf = true
theorem open_ins {r : Reach} {b0 : Nat} {t tI tS tR : TypeId} {fs : Array Field} {v : Value} {d : DataW H} {p : List MemPlace} {held : Bool} (ht : P.underlying t = some (.struct fs)) (hcells : P.cellsOf t = 6) (hI : P.underlying tI = some (.int .i64)) (hcI : P.cellsOf tI = 1) (hS : P.underlying tS = some (.slice tI)) (hcS : P.cellsOf tS = 1) (hR : P.underlying tR = some (.slice tS)) (hcR : P.cellsOf tR = 1)
  (hf : ∃ f0 f1 f2 f3 f4 f5 : Field, fs = #[f0, f1, f2, f3, f4, f5] ∧ (f0.type = tI ∧ f1.type = tI ∧ f2.type = tI ∧ f3.type = tS ∧ f4.type = tS ∧ f5.type = tR) ∧ f0.offset = 0 ∧ f1.offset = 1 ∧ f2.offset = 2 ∧ f3.offset = 3 ∧ f4.offset = 4 ∧ f5.offset = 5)
  (hv : Value.okWide P w r b0 t v) (h : DataW.Trod enc P w 0 (fun _ => true) held t v d p) : ∃ i : Ins, InsV w v i ∧ wfI i := by
 simp only [Value.okWide, ht] at hv
 obtain ⟨cs, rfl, hsz, -⟩ := hv
 obtain ⟨fuel, hfu⟩ := h
 obtain ⟨f0, f1, f2, f3, f4, f5, rfl, ⟨t0, t1, t2, t3, t4, t5⟩, o0, o1, o2, o3, o4, o5⟩ := hf
 obtain ⟨xs, k, -, -, hlen, hxl, hfd⟩ := DataW.trod_struct ht hfu
 rw [hcells] at hlen hsz
 obtain ⟨c0, c1, c2, c3, c4, c5, rfl⟩ : ∃ c0 c1 c2 c3 c4 c5, cs = #[c0, c1, c2, c3, c4, c5] := by
  match cs, hsz with
  | ⟨[c0, c1, c2, c3, c4, c5]⟩, _ => exact ⟨c0, c1, c2, c3, c4, c5, rfl⟩
 have hx : ∀ j, j < 6 → ∃ y, xs[j]? = some y := fun j hj => ⟨xs[j]'(by rw [hxl]; exact hj), List.getElem?_eq_getElem _⟩
 have g : ∀ (j : Nat) (f : Field) (tt : TypeId) (c : Value), (#[f0, f1, f2, f3, f4, f5] : Array Field)[j]? = some f → j < 6 → f.type = tt → f.offset = j → P.cellsOf tt = 1 → (([c0, c1, c2, c3, c4, c5] : List Value).drop j).take 1 = [c] → ∃ y, DataW.trod enc P w 0 (fun _ => true) held k tt [c] = some y := by
  intro j f tt c h1 hj h2 h3 h4 h5
  have := hfd j f h1
  rw [h2, h3, h4] at this
  obtain ⟨y, hy⟩ := hx j hj
  refine ⟨y, ?_⟩
  rw [← hy, ← this, ← h5]
  rfl
 obtain ⟨y0, g0⟩ := g 0 f0 tI c0 rfl (by omega) t0 o0 hcI rfl
 obtain ⟨y1, g1⟩ := g 1 f1 tI c1 rfl (by omega) t1 o1 hcI rfl
 obtain ⟨y2, g2⟩ := g 2 f2 tI c2 rfl (by omega) t2 o2 hcI rfl
 obtain ⟨y3, g3⟩ := g 3 f3 tS c3 rfl (by omega) t3 o3 hcS rfl
 obtain ⟨y4, g4⟩ := g 4 f4 tS c4 rfl (by omega) t4 o4 hcS rfl
 obtain ⟨y5, g5⟩ := g 5 f5 tR c5 rfl (by omega) t5 o5 hcR rfl
 obtain ⟨n0, e0, -, w0⟩ := DataW.trod_int hI g0
 obtain ⟨n1, e1, -, w1⟩ := DataW.trod_int hI g1
 obtain ⟨n2, e2, -, w2⟩ := DataW.trod_int hI g2
 obtain ⟨u3, l3, e3, s3, w3⟩ := trod_ints hS hI hcI g3
 obtain ⟨u4, l4, e4, s4, w4⟩ := trod_ints hS hI hcI g4
 obtain ⟨u5, R, e5, s5, w5⟩ := trod_rows hR hS hcS hI hcI g5
 cases e0
 cases e1
 cases e2
 cases e3
 cases e4
 cases e5
 exact ⟨⟨n0, n1, n2, l3, l4, R⟩, ⟨_, _, _, rfl, s3, s4, s5⟩, w0, w1, w2, w3, w4, w5⟩
end
end Go.Proofs.Ytnikajkklocncaa
namespace Go.Proofs.Ytnikajkklocncaa
open Go.RowKit
def smlP (i : Ins) : Prop := chk i = 0 ∧ (i.kind = 1 ∧ i.n ≤ 9 ∨ i.n ≤ 6)
instance (i : Ins) : Decidable (smlP i) := by unfold smlP; infer_instance
end Go.Proofs.Ytnikajkklocncaa
namespace Go.Proofs.Ytnikajkklocncaa
open Go.RowKit
theorem add_ok (a b : Int) (a0 : -9223372036854775808 ≤ a) (a1 : a ≤ 9223372036854775807) (b0 : -9223372036854775808 ≤ b) (b1 : b ≤ 9223372036854775807) (h : -9223372036854775808 ≤ a + b ∧ a + b ≤ 9223372036854775807) (w : World) :
    Calls Try.prog 52 #[.int .i64 a, .int .i64 b] w fun e w' => e = .returned (.tuple #[.int .i64 (a + b), .bool true]) ∧ w = w' := by
  have := a_add a b a0 a1 b0 b1 w
  rwa [(int_yes h).1, (int_yes h).2] at this
end Go.Proofs.Ytnikajkklocncaa
namespace Go.Proofs.Ytnikajkklocncaa
open Go.RowKit
theorem val_1 {i : Ins} {x : List Int} (h : (costI i x).2 = 0) : valI i x = (ofI i (costI i x).1, 0) := by unfold valI; rw [if_neg (not_not_intro h)]
end Go.Proofs.Ytnikajkklocncaa
namespace Go.Proofs.Ytnikajkklocncaa
open Go.RowKit Go.WideShapes Go.ChangeShapes Go.Deep
section
variable {H : Type} {enc : TypeId × Value → H} {P : Program} {w : World}
theorem trod_ints_len {t e : TypeId} {fuel : Nat} {a : Option Addr} {n c : Nat} {x : DataW H × List MemPlace} {held : Bool} (ht : P.underlying t = some (.slice e)) (he : P.underlying e = some (.int .i64)) (hce : P.cellsOf e = 1) (hbe : P.bytesOf e = 8)
    (h : DataW.trod enc P w 0 (fun _ => true) held fuel t [.slice a n c] = some x) (hw : ∀ m ∈ x.1.weights P t, m ≤ reachBytes) : n ≤ 17592186044416 := by
  rcases open_ints ht he hce h with ⟨hcs, _⟩ | ⟨a', len, cap, zs, hcs, -, hl, hm, hz, hx, -, -⟩
  · cases hcs; exact Nat.zero_le _
  · cases hcs
    simp only [if_true] at hz
    subst hx
    have h1 := hw (((lits IntKind.i64 (zs.take n)).length + (lits (H := H) IntKind.i64 (zs.drop n)).length) * P.bytesOf e) (by simp only [DataW.weights, ht]; exact List.mem_cons_self)
    rw [hbe] at h1
    have h2 : (lits (H := H) IntKind.i64 (zs.take n)).length = n := by simp [lits]; omega
    rw [h2] at h1
    unfold reachBytes at h1
    omega
theorem ins_len {t tI tS tR : TypeId} {fs : Array Field} {v : Value} {d : DataW H} {p : List MemPlace} {held : Bool} {i : Ins} (ht : P.underlying t = some (.struct fs)) (hI : P.underlying tI = some (.int .i64)) (hcI : P.cellsOf tI = 1) (hbI : P.bytesOf tI = 8) (hS : P.underlying tS = some (.slice tI)) (hcS : P.cellsOf tS = 1)
    (hf : ∃ f0 f1 f2 f3 f4 f5 : Field, fs = #[f0, f1, f2, f3, f4, f5] ∧ (f0.type = tI ∧ f1.type = tI ∧ f2.type = tI ∧ f3.type = tS ∧ f4.type = tS ∧ f5.type = tR) ∧ f0.offset = 0 ∧ f1.offset = 1 ∧ f2.offset = 2 ∧ f3.offset = 3 ∧ f4.offset = 4 ∧ f5.offset = 5)
    (hiv : InsV w v i) (h : DataW.Trod enc P w 0 (fun _ => true) held t v d p) (hw : ∀ m ∈ d.weights P t, m ≤ reachBytes) : i.wt.length ≤ 17592186044416 ∧ i.vl.length ≤ 17592186044416 := by
  obtain ⟨aw, cw, av, cv, ac, cc, rfl, -, -, -⟩ := hiv.parts
  obtain ⟨fuel, hfu⟩ := h
  obtain ⟨f0, f1, f2, f3, f4, f5, rfl, ⟨t0, t1, t2, t3, t4, t5⟩, o0, o1, o2, o3, o4, o5⟩ := hf
  obtain ⟨xs, k, -, hx, hlen, hxl, hfd⟩ := DataW.trod_struct ht hfu
  cases hx
  have g : ∀ (j : Nat) (f : Field) (a : Option Addr) (n c : Nat), (#[f0, f1, f2, f3, f4, f5] : Array Field)[j]? = some f → j < 6 → f.type = tS → f.offset = j →
      (([.int .i64 i.kind, .int .i64 i.n, .int .i64 i.cap, .slice aw i.wt.length cw, .slice av i.vl.length cv, .slice ac i.cost.length cc] : List Value).drop j).take 1 = [.slice a n c] → n ≤ 17592186044416 := by
    intro j f a n c h1 hj h2 h3 h5
    have h6 := hfd j f h1
    rw [h2, h3, hcS] at h6
    have hlt : j < xs.length := by rw [hxl]; exact hj
    rw [List.getElem?_eq_getElem hlt] at h6
    refine trod_ints_len (x := xs[j]) hS hI hcI hbI (h5 ▸ h6) fun m hm => hw m ?_
    simp only [DataW.weights, ht]
    exact DataW.weights_mem_each (j := j) (t := tS) (d := xs[j].1) (by rw [List.getElem?_map, Array.getElem?_toList, h1]; exact congrArg some h2) (by simp [hlt]) m hm
  exact ⟨g 3 f3 aw _ cw rfl (by omega) t3 o3 rfl, g 4 f4 av _ cv rfl (by omega) t4 o4 rfl⟩
end
end Go.Proofs.Ytnikajkklocncaa
namespace Go.Proofs.Ytnikajkklocncaa
open Go.RowKit
set_option maxRecDepth 100000 in
set_option maxHeartbeats 400000 in
theorem shapeL5 (i : Ins) (ax3 : Option Addr) (cx3 : Nat) (ax4 : Option Addr) (cx4 : Nat) (ax5 : Option Addr) (cx5 : Nat) (hbg : i.wt.length ≤ 17592186044416 ∧ i.vl.length ≤ 17592186044416) (w : World) (hx3 : IntSl w (.slice ax3 i.wt.length cx3) i.wt) (hx4 : IntSl w (.slice ax4 i.vl.length cx4) i.vl) (hx5 : RowsV w (.slice ax5 i.cost.length cx5) i.cost) :
  Calls Try.prog 54 #[.agg #[.int .i64 i.kind, .int .i64 i.n, .int .i64 i.cap, .slice ax3 i.wt.length cx3, .slice ax4 i.vl.length cx4, .slice ax5 i.cost.length cx5]] w fun e w' => ∃ b, e = .returned (.bool b) ∧ (b = true ↔ shapeOK i) ∧ Below w.heap.size w w' := by
 have hbs := Below.refl (B := w.heap.size) w
 have hl3 := hx3.lenB
 have hl4 := hx4.lenB
 have hl5 := hx5.lenB
 have hb1 := hbg.1
 have hb2 := hbg.2
 have hM := Mem.start w
 refine Calls.of_ends (vs := [.agg #[.int .i64 i.kind, .int .i64 i.n, .int .i64 i.cap, .slice ax3 i.wt.length cx3, .slice ax4 i.vl.length cx4, .slice ax5 i.cost.length cx5]]) Try.func54 rfl Try.ntmps54 rfl ?_
 intro a hA
 replace hA : St 52 [(0, _)] a := hA
 refine Ends.seq (Ends.region ?_)
 refine S.box hA hM rfl rfl ?_; clear hA hM a; intro b1 w1 hb2 hM a hA
 replace hM : Mem _ _ [pt b1 #[.int .i64 i.kind, .int .i64 i.n, .int .i64 i.cap, .slice ax3 i.wt.length cx3, .slice ax4 i.vl.length cx4, .slice ax5 i.cost.length cx5] 25] _ := hM
 refine S.val hA (R.assign rfl) rfl ?_; clear hA a; intro a hA
 refine S.done ?_
 refine Ends.seq (Ends.seq (Ends.region ?_))
 refine S.val hA (R.fieldAddr (q := 0) fi25_0 rfl rfl rfl) rfl ?_; clear hA a; intro a hA
 refine S.val hA (R.load sz3 rfl (hM.cell (k := 0) rfl rfl)) rfl ?_; clear hA a; intro a hA
 refine S.val hA (R.eql rfl rfl) rfl ?_; clear hA a; intro a hA
 refine S.done ?_
 replace hA : St 52 [(1, _), (5, _)] a := hA.sub ((.cons rfl (.cons rfl .nil)))
 refine Ends.ite hA rfl (fun hc3 => ?_) (fun hc3 => ?_)
 ·
  refine Ends.seq ?_
  refine Ends.cut (fun (a : Act) (wv : World) => St 52 [(1, .pointer (some ⟨b1, 0, none⟩)), (2, .bool (decide (((((i.wt.length : Int)) = i.n ∧ ((i.vl.length : Int)) = i.n) ∧ ((i.cost.length : Int)) = 0))))] a ∧ Mem w nof [pt b1 #[.int .i64 i.kind, .int .i64 i.n, .int .i64 i.cap, .slice ax3 i.wt.length cx3, .slice ax4 i.vl.length cx4, .slice ax5 i.cost.length cx5] 25] wv) ?_ (fun k2 hJ => ?_)
  ·
   clear hA hM a; rintro a w2 ⟨hA, hM⟩
   refine Ends.ret1 Try.func54 Try.results54 hA rfl ?_
   exact ⟨_, rfl, by rw [decide_eq_true_iff]; unfold shapeOK; omega, Mem.trans0 hbs hM.nilL⟩
  ·
   refine Ends.region ?_
   refine S.val hA (R.fieldAddr (q := 3) fi25_3 rfl rfl rfl) rfl ?_; clear hA a; intro a hA
   refine S.val hA (R.load sz22 rfl (hM.cell (k := 0) rfl rfl)) rfl ?_; clear hA a; intro a hA
   refine S.val hA (R.lenS Try.underlying22 rfl rfl) rfl ?_; clear hA a; intro a hA
   refine S.val hA (R.fieldAddr (q := 1) fi25_1 rfl rfl rfl) rfl ?_; clear hA a; intro a hA
   refine S.val hA (R.load sz3 rfl (hM.cell (k := 0) rfl rfl)) rfl ?_; clear hA a; intro a hA
   refine S.val hA (R.eql rfl rfl) rfl ?_; clear hA a; intro a hA
   refine S.val hA (R.move rfl) rfl ?_; clear hA a; intro a hA
   refine hA.split (d := 12) rfl ?_ ?_
   ·
    clear hA; intro hg4 hA
    refine S.valg (dj := 12) hA (by kernel_rfl) rfl (R.fieldAddr (q := 4) fi25_4 rfl rfl rfl) rfl ?_; clear hA a; intro a hA
    refine S.valg (dj := 12) hA (by kernel_rfl) rfl (R.load sz22 rfl (hM.cell (k := 0) rfl rfl)) rfl ?_; clear hA a; intro a hA
    refine S.valg (dj := 12) hA (by kernel_rfl) rfl (R.lenS Try.underlying22 rfl rfl) rfl ?_; clear hA a; intro a hA
    refine S.valg (dj := 12) hA (by kernel_rfl) rfl (R.fieldAddr (q := 1) fi25_1 rfl rfl rfl) rfl ?_; clear hA a; intro a hA
    refine S.valg (dj := 12) hA (by kernel_rfl) rfl (R.load sz3 rfl (hM.cell (k := 0) rfl rfl)) rfl ?_; clear hA a; intro a hA
    refine S.valg (dj := 12) hA (by kernel_rfl) rfl (R.eql rfl rfl) rfl ?_; clear hA a; intro a hA
    refine S.val hA (R.pickT rfl rfl) rfl ?_; clear hA a; intro a hA
    refine S.val hA (R.move rfl) rfl ?_; clear hA a; intro a hA
    refine hA.split (d := 20) rfl ?_ ?_
    ·
     clear hA; intro hg5 hA
     refine S.valg (dj := 20) hA (by kernel_rfl) rfl (R.fieldAddr (q := 5) fi25_5 rfl rfl rfl) rfl ?_; clear hA a; intro a hA
     refine S.valg (dj := 20) hA (by kernel_rfl) rfl (R.load sz23 rfl (hM.cell (k := 0) rfl rfl)) rfl ?_; clear hA a; intro a hA
     refine S.valg (dj := 20) hA (by kernel_rfl) rfl (R.lenS Try.underlying23 rfl rfl) rfl ?_; clear hA a; intro a hA
     refine S.valg (dj := 20) hA (by kernel_rfl) rfl (R.eql rfl rfl) rfl ?_; clear hA a; intro a hA
     refine S.val hA (R.pickT rfl rfl) rfl ?_; clear hA a; intro a hA
     refine S.val hA (R.assign rfl) rfl ?_; clear hA a; intro a hA
     refine S.done ?_
     replace hA : St 52 [(1, _), (2, _)] a := hA.sub ((.cons rfl (.cons rfl .nil)))
     exact hJ _ _ ⟨hA.sub (.cons rfl (.cons (by first | rfl | exact congrArg (fun b => some (Value.bool b)) (by first | exact decide_eq_decide.2 (by omega) | exact or_bool (by omega) | exact and_bool (by omega) | (simp; done) | (simp [hg4, hg5]; done) | (have h80 := hg4; (try simp at h80); have h81 := hg5; (try simp at h81); simp [h80, h81]; done) | exact (decide_eq_false (fun h9 => hg4 h9.1)).symm | exact (decide_eq_false (fun h9 => hg5 h9.1)).symm)) .nil)), hM⟩
    ·
     clear hA; intro hg5 hA
     refine S.no (dj := 20) hA (by kernel_rfl) rfl rfl rfl ?_; clear hA a; intro a hA
     refine S.no (dj := 20) hA (by kernel_rfl) rfl rfl rfl ?_; clear hA a; intro a hA
     refine S.no (dj := 20) hA (by kernel_rfl) rfl rfl rfl ?_; clear hA a; intro a hA
     refine S.no (dj := 20) hA (by kernel_rfl) rfl rfl rfl ?_; clear hA a; intro a hA
     refine S.val hA (R.pickF rfl rfl) rfl ?_; clear hA a; intro a hA
     refine S.val hA (R.assign rfl) rfl ?_; clear hA a; intro a hA
     refine S.done ?_
     replace hA : St 52 [(1, _), (2, _)] a := hA.sub ((.cons rfl (.cons rfl .nil)))
     exact hJ _ _ ⟨hA.sub (.cons rfl (.cons (by first | rfl | exact congrArg (fun b => some (Value.bool b)) (by first | exact decide_eq_decide.2 (by omega) | exact or_bool (by omega) | exact and_bool (by omega) | (simp; done) | (simp [hg4, hg5]; done) | (have h80 := hg4; (try simp at h80); have h81 := hg5; (try simp at h81); simp [h80, h81]; done) | exact (decide_eq_false (fun h9 => hg4 h9.1)).symm | exact (decide_eq_false (fun h9 => hg5 h9.1)).symm)) .nil)), hM⟩
   ·
    clear hA; intro hg4 hA
    refine S.no (dj := 12) hA (by kernel_rfl) rfl rfl rfl ?_; clear hA a; intro a hA
    refine S.no (dj := 12) hA (by kernel_rfl) rfl rfl rfl ?_; clear hA a; intro a hA
    refine S.no (dj := 12) hA (by kernel_rfl) rfl rfl rfl ?_; clear hA a; intro a hA
    refine S.no (dj := 12) hA (by kernel_rfl) rfl rfl rfl ?_; clear hA a; intro a hA
    refine S.no (dj := 12) hA (by kernel_rfl) rfl rfl rfl ?_; clear hA a; intro a hA
    refine S.no (dj := 12) hA (by kernel_rfl) rfl rfl rfl ?_; clear hA a; intro a hA
    refine S.val hA (R.pickF rfl rfl) rfl ?_; clear hA a; intro a hA
    refine S.val hA (R.move rfl) rfl ?_; clear hA a; intro a hA
    refine S.no (dj := 20) hA (by kernel_rfl) rfl rfl rfl ?_; clear hA a; intro a hA
    refine S.no (dj := 20) hA (by kernel_rfl) rfl rfl rfl ?_; clear hA a; intro a hA
    refine S.no (dj := 20) hA (by kernel_rfl) rfl rfl rfl ?_; clear hA a; intro a hA
    refine S.no (dj := 20) hA (by kernel_rfl) rfl rfl rfl ?_; clear hA a; intro a hA
    refine S.val hA (R.pickF rfl rfl) rfl ?_; clear hA a; intro a hA
    refine S.val hA (R.assign rfl) rfl ?_; clear hA a; intro a hA
    refine S.done ?_
    replace hA : St 52 [(1, _), (2, _)] a := hA.sub ((.cons rfl (.cons rfl .nil)))
    exact hJ _ _ ⟨hA.sub (.cons rfl (.cons (by first | rfl | exact congrArg (fun b => some (Value.bool b)) (by first | exact decide_eq_decide.2 (by omega) | exact or_bool (by omega) | exact and_bool (by omega) | (simp; done) | (simp [hg4]; done) | (have h80 := hg4; (try simp at h80); simp [h80]; done) | exact (decide_eq_false (fun h9 => hg4 h9.1)).symm)) .nil)), hM⟩
 ·
  refine Ends.skip (Ends.seq (Ends.seq ?_))
  refine Ends.cut (fun (a : Act) (wv : World) => St 52 [(1, .pointer (some ⟨b1, 0, none⟩)), (46, .bool (decide (((((i.cost.length : Int)) ≠ i.n ∨ i.cap ≠ 0) ∨ 0 < (((i.wt.length : Int)) + ((i.vl.length : Int)))))))] a ∧ Mem w nof [pt b1 #[.int .i64 i.kind, .int .i64 i.n, .int .i64 i.cap, .slice ax3 i.wt.length cx3, .slice ax4 i.vl.length cx4, .slice ax5 i.cost.length cx5] 25] wv) ?_ (fun k2 hJ => ?_)
  ·
   clear hA hM a; rintro a w3 ⟨hA, hM⟩
   refine Ends.ite hA rfl (fun hc6 => ?_) (fun hc6 => ?_)
   ·
    refine Ends.seq (Ends.region ?_)
    refine S.val hA (R.assign rfl) rfl ?_; clear hA a; intro a hA
    refine S.done ?_
    refine Ends.ret1 Try.func54 Try.results54 hA rfl ?_
    refine ⟨false, rfl, ⟨fun h => (by cases h), fun h => ?_⟩, Mem.trans0 hbs hM.nilL⟩
    unfold shapeOK at h
    rcases h with h | ⟨q1, q2, q3, q4, q5, -⟩
    · omega
    · omega
   ·
    refine Ends.skip (Ends.seq (Ends.region ?_))
    refine S.val hA (R.fieldAddr (q := 5) fi25_5 rfl rfl rfl) rfl ?_; clear hA a; intro a hA
    refine S.val hA (R.load sz23 rfl (hM.cell (k := 0) rfl rfl)) rfl ?_; clear hA a; intro a hA
    refine S.val hA (R.to (v := .func (.func 68) #[] #[.pointer (some ⟨b1, 0, none⟩)]) (R.makeFunc rfl) rfl) rfl ?_; clear hA a; intro a hA
    refine S.call hA (R.callF Try.func67 rfl rfl rfl) rfl (containsR b1 i ax3 cx3 ax4 cx4 ax5 cx5 _ (hM.block (k := 0) rfl) (hx3.mem hM) (hx4.mem hM) (hx5.mem hM)) ?_; clear hA a
    rintro e w4 ⟨bi7, rfl, hbi8, hb⟩
    replace hM := hM.callB hb; clear hb
    refine ⟨.bool bi7, rfl, fun a hA => ?_⟩
    refine S.val hA (R.not rfl) rfl ?_; clear hA a; intro a hA
    refine S.val hA (R.assign rfl) rfl ?_; clear hA a; intro a hA
    refine S.done ?_
    replace hA : St 52 [(2, _)] a := hA.sub ((.cons rfl .nil))
    refine Ends.ret1 Try.func54 Try.results54 hA rfl ?_
    refine ⟨_, rfl, ?_, Mem.trans0 hbs hM.nilL⟩
    have hbi := hbi8
    constructor
    ·
     intro h
     have hf : bi7 = false := by simpa using h
     have hall := Decidable.not_not.1 (fun h9 => by rw [hbi.2 h9] at hf; cases hf)
     exact .inr ⟨by omega, by omega, by omega, by omega, by omega, hall⟩
    ·
     intro h
     rcases h with h | h
     · omega
     ·
      cases hc : bi7 with
      | false => rfl
      | true => exact absurd h.2.2.2.2.2 (hbi.1 hc)
  ·
   refine Ends.region ?_
   refine S.val hA (R.fieldAddr (q := 5) fi25_5 rfl rfl rfl) rfl ?_; clear hA a; intro a hA
   refine S.val hA (R.load sz23 rfl (hM.cell (k := 0) rfl rfl)) rfl ?_; clear hA a; intro a hA
   refine S.val hA (R.lenS Try.underlying23 rfl rfl) rfl ?_; clear hA a; intro a hA
   refine S.val hA (R.fieldAddr (q := 1) fi25_1 rfl rfl rfl) rfl ?_; clear hA a; intro a hA
   refine S.val hA (R.load sz3 rfl (hM.cell (k := 0) rfl rfl)) rfl ?_; clear hA a; intro a hA
   refine S.val hA (R.neq rfl rfl) rfl ?_; clear hA a; intro a hA
   refine S.val hA (R.move rfl) rfl ?_; clear hA a; intro a hA
   refine hA.split (d := 32) rfl ?_ ?_
   ·
    clear hA; intro hg9 hA
    refine S.no (dj := 32) hA (by kernel_rfl) rfl rfl rfl ?_; clear hA a; intro a hA
    refine S.no (dj := 32) hA (by kernel_rfl) rfl rfl rfl ?_; clear hA a; intro a hA
    refine S.no (dj := 32) hA (by kernel_rfl) rfl rfl rfl ?_; clear hA a; intro a hA
    refine S.val hA (R.pickT rfl rfl) rfl ?_; clear hA a; intro a hA
    refine S.val hA (R.move rfl) rfl ?_; clear hA a; intro a hA
    refine S.no (dj := 37) hA (by kernel_rfl) rfl rfl rfl ?_; clear hA a; intro a hA
    refine S.no (dj := 37) hA (by kernel_rfl) rfl rfl rfl ?_; clear hA a; intro a hA
    refine S.no (dj := 37) hA (by kernel_rfl) rfl rfl rfl ?_; clear hA a; intro a hA
    refine S.no (dj := 37) hA (by kernel_rfl) rfl rfl rfl ?_; clear hA a; intro a hA
    refine S.no (dj := 37) hA (by kernel_rfl) rfl rfl rfl ?_; clear hA a; intro a hA
    refine S.no (dj := 37) hA (by kernel_rfl) rfl rfl rfl ?_; clear hA a; intro a hA
    refine S.no (dj := 37) hA (by kernel_rfl) rfl rfl rfl ?_; clear hA a; intro a hA
    refine S.no (dj := 37) hA (by kernel_rfl) rfl rfl rfl ?_; clear hA a; intro a hA
    refine S.val hA (R.pickT rfl rfl) rfl ?_; clear hA a; intro a hA
    refine S.done ?_
    replace hA : St 52 [(1, _), (46, _)] a := hA.sub ((.cons rfl (.cons rfl .nil)))
    exact hJ _ _ ⟨hA.sub (.cons rfl (.cons (by first | rfl | exact congrArg (fun b => some (Value.bool b)) (by first | exact decide_eq_decide.2 (by omega) | exact or_bool (by omega) | exact and_bool (by omega) | (simp; done) | (simp [hg9]; done) | (have h80 := hg9; (try simp at h80); simp [h80]; done) | exact (decide_eq_false (fun h9 => hg9 h9.1)).symm)) .nil)), hM⟩
   ·
    clear hA; intro hg9 hA
    refine S.valg (dj := 32) hA (by kernel_rfl) rfl (R.fieldAddr (q := 2) fi25_2 rfl rfl rfl) rfl ?_; clear hA a; intro a hA
    refine S.valg (dj := 32) hA (by kernel_rfl) rfl (R.load sz3 rfl (hM.cell (k := 0) rfl rfl)) rfl ?_; clear hA a; intro a hA
    refine S.valg (dj := 32) hA (by kernel_rfl) rfl (R.neq rfl rfl) rfl ?_; clear hA a; intro a hA
    refine S.val hA (R.pickF rfl rfl) rfl ?_; clear hA a; intro a hA
    refine S.val hA (R.move rfl) rfl ?_; clear hA a; intro a hA
    refine hA.split (d := 37) rfl ?_ ?_
    ·
     clear hA; intro hg10 hA
     refine S.no (dj := 37) hA (by kernel_rfl) rfl rfl rfl ?_; clear hA a; intro a hA
     refine S.no (dj := 37) hA (by kernel_rfl) rfl rfl rfl ?_; clear hA a; intro a hA
     refine S.no (dj := 37) hA (by kernel_rfl) rfl rfl rfl ?_; clear hA a; intro a hA
     refine S.no (dj := 37) hA (by kernel_rfl) rfl rfl rfl ?_; clear hA a; intro a hA
     refine S.no (dj := 37) hA (by kernel_rfl) rfl rfl rfl ?_; clear hA a; intro a hA
     refine S.no (dj := 37) hA (by kernel_rfl) rfl rfl rfl ?_; clear hA a; intro a hA
     refine S.no (dj := 37) hA (by kernel_rfl) rfl rfl rfl ?_; clear hA a; intro a hA
     refine S.no (dj := 37) hA (by kernel_rfl) rfl rfl rfl ?_; clear hA a; intro a hA
     refine S.val hA (R.pickT rfl rfl) rfl ?_; clear hA a; intro a hA
     refine S.done ?_
     replace hA : St 52 [(1, _), (46, _)] a := hA.sub ((.cons rfl (.cons rfl .nil)))
     exact hJ _ _ ⟨hA.sub (.cons rfl (.cons (by first | rfl | exact congrArg (fun b => some (Value.bool b)) (by first | exact decide_eq_decide.2 (by omega) | exact or_bool (by omega) | exact and_bool (by omega) | (simp; done) | (simp [hg9, hg10]; done) | (have h80 := hg9; (try simp at h80); have h81 := hg10; (try simp at h81); simp [h80, h81]; done) | exact (decide_eq_false (fun h9 => hg9 h9.1)).symm | exact (decide_eq_false (fun h9 => hg10 h9.1)).symm)) .nil)), hM⟩
    ·
     clear hA; intro hg10 hA
     refine S.valg (dj := 37) hA (by kernel_rfl) rfl (R.fieldAddr (q := 3) fi25_3 rfl rfl rfl) rfl ?_; clear hA a; intro a hA
     refine S.valg (dj := 37) hA (by kernel_rfl) rfl (R.load sz22 rfl (hM.cell (k := 0) rfl rfl)) rfl ?_; clear hA a; intro a hA
     refine S.valg (dj := 37) hA (by kernel_rfl) rfl (R.lenS Try.underlying22 rfl rfl) rfl ?_; clear hA a; intro a hA
     refine S.valg (dj := 37) hA (by kernel_rfl) rfl (R.fieldAddr (q := 4) fi25_4 rfl rfl rfl) rfl ?_; clear hA a; intro a hA
     refine S.valg (dj := 37) hA (by kernel_rfl) rfl (R.load sz22 rfl (hM.cell (k := 0) rfl rfl)) rfl ?_; clear hA a; intro a hA
     refine S.valg (dj := 37) hA (by kernel_rfl) rfl (R.lenS Try.underlying22 rfl rfl) rfl ?_; clear hA a; intro a hA
     refine S.valg (dj := 37) hA (by kernel_rfl) rfl (R.addI rfl rfl (r := ((i.wt.length : Int)) + ((i.vl.length : Int))) rfl (by omega)) rfl ?_; clear hA a; intro a hA
     refine S.valg (dj := 37) hA (by kernel_rfl) rfl (R.gtr rfl rfl) rfl ?_; clear hA a; intro a hA
     refine S.val hA (R.pickF rfl rfl) rfl ?_; clear hA a; intro a hA
     refine S.done ?_
     replace hA : St 52 [(1, _), (46, _)] a := hA.sub ((.cons rfl (.cons rfl .nil)))
     exact hJ _ _ ⟨hA.sub (.cons rfl (.cons (by first | rfl | exact congrArg (fun b => some (Value.bool b)) (by first | exact decide_eq_decide.2 (by omega) | exact or_bool (by omega) | exact and_bool (by omega) | (simp; done) | (simp [hg9, hg10]; done) | (have h80 := hg9; (try simp at h80); have h81 := hg10; (try simp at h81); simp [h80, h81]; done) | exact (decide_eq_false (fun h9 => hg9 h9.1)).symm | exact (decide_eq_false (fun h9 => hg10 h9.1)).symm)) .nil)), hM⟩
set_option maxRecDepth 100000 in
set_option maxHeartbeats 400000 in
theorem checkL5 (i : Ins) (ax3 : Option Addr) (cx3 : Nat) (ax4 : Option Addr) (cx4 : Nat) (ax5 : Option Addr) (cx5 : Nat) (hbg : i.wt.length ≤ 17592186044416 ∧ i.vl.length ≤ 17592186044416) (w : World) (hx3 : IntSl w (.slice ax3 i.wt.length cx3) i.wt) (hx4 : IntSl w (.slice ax4 i.vl.length cx4) i.vl) (hx5 : RowsV w (.slice ax5 i.cost.length cx5) i.cost) :
  Calls Try.prog 35 #[.agg #[.int .i64 i.kind, .int .i64 i.n, .int .i64 i.cap, .slice ax3 i.wt.length cx3, .slice ax4 i.vl.length cx4, .slice ax5 i.cost.length cx5]] w fun e w' => e = .returned (.int .i64 (chk i)) ∧ Below w.heap.size w w' := by
 have hbs := Below.refl (B := w.heap.size) w
 have hM := Mem.start w
 refine Calls.of_ends (vs := [.agg #[.int .i64 i.kind, .int .i64 i.n, .int .i64 i.cap, .slice ax3 i.wt.length cx3, .slice ax4 i.vl.length cx4, .slice ax5 i.cost.length cx5]]) Try.func35 rfl Try.ntmps35 rfl ?_
 intro a hA
 replace hA : St 21 [(0, _)] a := hA
 refine Ends.seq (Ends.region ?_)
 refine S.box hA hM rfl rfl ?_; clear hA hM a; intro b1 w1 hb2 hM a hA
 replace hM : Mem _ _ [pt b1 #[.int .i64 i.kind, .int .i64 i.n, .int .i64 i.cap, .slice ax3 i.wt.length cx3, .slice ax4 i.vl.length cx4, .slice ax5 i.cost.length cx5] 25] _ := hM
 refine S.val hA (R.assign rfl) rfl ?_; clear hA a; intro a hA
 refine S.done ?_
 refine Ends.seq (Ends.seq (Ends.region ?_))
 refine S.val hA (R.loadA sz25 rfl (hM.range (k := 0) rfl) rfl) rfl ?_; clear hA a; intro a hA
 refine S.call hA (R.callF Try.func53 rfl rfl rfl) rfl (size05 i ax3 cx3 ax4 cx4 ax5 cx5 _ (hx3.mem hM) (hx4.mem hM) (hx5.mem hM)) ?_; clear hA a
 rintro e w2 ⟨rfl, hb⟩
 replace hM := hM.callB hb; clear hb
 refine ⟨.int .i64 (sizeE i), rfl, fun a hA => ?_⟩
 refine S.val hA (R.assign rfl) rfl ?_; clear hA a; intro a hA
 refine S.done ?_
 replace hA : St 21 [(1, _), (3, _)] a := hA.sub ((.cons rfl (.cons rfl .nil)))
 refine Ends.seq (Ends.region ?_)
 refine S.val hA (R.move rfl) rfl ?_; clear hA a; intro a hA
 refine S.val hA (R.neq rfl rfl) rfl ?_; clear hA a; intro a hA
 refine S.done ?_
 refine Ends.ite hA rfl (fun hc3 => ?_) (fun hc3 => ?_)
 ·
  refine Ends.seq (Ends.region ?_)
  refine S.val hA (R.move rfl) rfl ?_; clear hA a; intro a hA
  refine S.val hA (R.assign rfl) rfl ?_; clear hA a; intro a hA
  refine S.done ?_
  replace hA : St 21 [(1, _), (2, _)] a := hA.sub ((.cons rfl (.cons rfl .nil)))
  refine Ends.ret1 Try.func35 Try.results35 hA rfl ?_
  exact ⟨by rw [chk_size hc3], Mem.trans0 hbs hM.nilL⟩
 ·
  have hs0 : sizeE i = 0 := Decidable.not_not.1 hc3
  refine Ends.skip (Ends.seq (Ends.block (Ends.seq (Ends.region ?_))))
  refine S.val hA (R.loadA sz25 rfl (hM.range (k := 0) rfl) rfl) rfl ?_; clear hA a; intro a hA
  refine S.call hA (R.callF Try.func54 rfl rfl rfl) rfl (shapeL5 i ax3 cx3 ax4 cx4 ax5 cx5 hbg _ (hx3.mem hM) (hx4.mem hM) (hx5.mem hM)) ?_; clear hA a
  rintro e w3 ⟨bs4, rfl, hbs_5, hb⟩
  replace hM := hM.callB hb; clear hb
  refine ⟨.bool bs4, rfl, fun a hA => ?_⟩
  refine S.val hA (R.not rfl) rfl ?_; clear hA a; intro a hA
  refine S.val hA (R.assign rfl) rfl ?_; clear hA a; intro a hA
  refine S.done ?_
  replace hA : St 21 [(1, _), (9, _)] a := hA.sub ((.cons rfl (.cons rfl .nil)))
  refine Ends.iteB hA rfl (fun hc6 => ?_) (fun hc6 => ?_)
  ·
   have hns : ¬ shapeOK i := fun h9 => by have h8 := hbs_5.2 h9; rw [h8] at hc6; cases hc6
   refine Ends.seq (Ends.region ?_)
   refine S.val hA (R.assign rfl) rfl ?_; clear hA a; intro a hA
   refine S.done ?_
   refine Ends.ret1 Try.func35 Try.results35 hA rfl ?_
   exact ⟨by rw [chk_shape hs0 hns], Mem.trans0 hbs hM.nilL⟩
  ·
   have hss : shapeOK i := hbs_5.1 (by simpa using hc6)
   refine Ends.seq (Ends.region ?_)
   refine S.val hA (R.fieldAddr (q := 0) fi25_0 rfl rfl rfl) rfl ?_; clear hA a; intro a hA
   refine S.val hA (R.load sz3 rfl (hM.cell (k := 0) rfl rfl)) rfl ?_; clear hA a; intro a hA
   refine S.val hA (R.eql rfl rfl) rfl ?_; clear hA a; intro a hA
   refine S.val hA (R.assign rfl) rfl ?_; clear hA a; intro a hA
   refine S.done ?_
   replace hA : St 21 [(1, _), (13, _)] a := hA.sub ((.cons rfl (.cons rfl .nil)))
   refine Ends.ite hA rfl (fun hc7 => ?_) (fun hc7 => ?_)
   ·
    have hsp := shape_items hss hc7
    have hkd := hc7
    refine Ends.seq (Ends.region ?_)
    refine S.val hA (R.loadA sz25 rfl (hM.range (k := 0) rfl) rfl) rfl ?_; clear hA a; intro a hA
    refine S.call hA (R.callF Try.func55 rfl rfl rfl) rfl (items05 i ax3 cx3 ax4 cx4 ax5 cx5 ⟨hsp.1, hsp.2.1⟩ _ (hx3.mem hM) (hx4.mem hM) (hx5.mem hM)) ?_; clear hA a
    rintro e w4 ⟨rfl, hb⟩
    replace hM := hM.callB hb; clear hb
    refine ⟨.int .i64 (if numE i.cap ≠ 0 then numE i.cap else pfx (itF i) i.n.toNat), rfl, fun a hA => ?_⟩
    refine S.val hA (R.assign rfl) rfl ?_; clear hA a; intro a hA
    refine S.done ?_
    refine Ends.ret1 Try.func35 Try.results35 hA rfl ?_
    exact ⟨by rw [chk_items hs0 hss hkd], Mem.trans0 hbs hM.nilL⟩
   ·
    have hsp := shape_rows hss hc7
    have hkd := hc7
    refine Ends.skip (Ends.inBlock (Ends.seq (Ends.region ?_)))
    refine S.val hA (R.loadA sz25 rfl (hM.range (k := 0) rfl) rfl) rfl ?_; clear hA a; intro a hA
    refine S.call hA (R.callF Try.func56 rfl rfl rfl) rfl (rows05 i ax3 cx3 ax4 cx4 ax5 cx5 hsp.2.2.2.2 hsp.1 _ (hx3.mem hM) (hx4.mem hM) (hx5.mem hM)) ?_; clear hA a
    rintro e w5 ⟨rfl, hb⟩
    replace hM := hM.callB hb; clear hb
    refine ⟨.int .i64 (pfx (fun r => pfx (cellF i r) i.n.toNat) i.n.toNat), rfl, fun a hA => ?_⟩
    refine S.val hA (R.assign rfl) rfl ?_; clear hA a; intro a hA
    refine S.done ?_
    replace hA : St 21 [(2, _)] a := hA.sub ((.cons rfl .nil))
    refine Ends.ret1 Try.func35 Try.results35 hA rfl ?_
    exact ⟨by rw [chk_rows hs0 hss hkd], Mem.trans0 hbs hM.nilL⟩
theorem takeI_snoc {R : List (List Int)} {k : Nat} (h : k < R.length) : R.take (k + 1) = R.take k ++ [R.getD k []] := takeR_succ R k h
theorem smallI_of {i : Ins} (hF : InF i) : smallI i := by
  obtain ⟨h1, h2, h3⟩ := inF_len hF
  have h4 := hF.n24
  have h5 := hF.cost
  refine ⟨by omega, by omega, ?_, fun r hr => ?_⟩
  · split at h5
    · omega
    · have := h4 ‹_›; omega
  · obtain ⟨q, hq, rfl⟩ := List.getElem_of_mem hr
    have h6 := hF.row q hq
    rw [List.getD_eq_getElem?_getD, List.getElem?_eq_getElem hq, Option.getD_some] at h6
    have := hF.n64
    omega
theorem rowmem {R : List (List Int)} {k : Nat} (h : k < R.length) : R.getD k [] ∈ R := by rw [List.getD_eq_getElem?_getD, List.getElem?_eq_getElem h]; exact List.getElem_mem h
set_option maxRecDepth 100000 in
set_option maxHeartbeats 400000 in
theorem icopy05 (i : Ins) (ax3 : Option Addr) (cx3 : Nat) (ax4 : Option Addr) (cx4 : Nat) (ax5 : Option Addr) (cx5 : Nat) (hsm : smallI i) (w : World) (hx3 : IntSl w (.slice ax3 i.wt.length cx3) i.wt) (hx4 : IntSl w (.slice ax4 i.vl.length cx4) i.vl) (hx5 : RowsV w (.slice ax5 i.cost.length cx5) i.cost) :
  Calls Try.prog 36 #[.agg #[.int .i64 i.kind, .int .i64 i.n, .int .i64 i.cap, .slice ax3 i.wt.length cx3, .slice ax4 i.vl.length cx4, .slice ax5 i.cost.length cx5]] w fun e w' => ∃ aw cw av cv ac cc rs, e = .returned (insA i aw cw av cv ac cc rs) ∧ rs.map (·.Y) = i.cost ∧ Mem w nof [bundle (insL 3 22 i aw cw av cv ac cc rs)] w' := by
 have hbs := Below.refl (B := w.heap.size) w
 have hl5 := hx5.lenB
 have hs1 := hsm.1
 have hs2 := hsm.2.1
 have hs3 := hsm.2.2.1
 have hM := Mem.start w
 refine Calls.of_ends (vs := [.agg #[.int .i64 i.kind, .int .i64 i.n, .int .i64 i.cap, .slice ax3 i.wt.length cx3, .slice ax4 i.vl.length cx4, .slice ax5 i.cost.length cx5]]) Try.func36 rfl Try.ntmps36 rfl ?_
 intro a hA
 replace hA : St 30 [(0, _)] a := hA
 refine Ends.seq (Ends.region ?_)
 refine S.box hA hM rfl rfl ?_; clear hA hM a; intro b1 w1 hb2 hM a hA
 replace hM : Mem _ _ [pt b1 #[.int .i64 i.kind, .int .i64 i.n, .int .i64 i.cap, .slice ax3 i.wt.length cx3, .slice ax4 i.vl.length cx4, .slice ax5 i.cost.length cx5] 25] _ := hM
 refine S.alloc hA hM info25 rfl rfl ?_; clear hA hM a; intro b3 w2 hb4 hM a hA
 replace hM : Mem _ _ [pt b3 #[.int .i64 0, .int .i64 0, .int .i64 0, .slice none 0 0, .slice none 0 0, .slice none 0 0] 25, pt b1 #[.int .i64 i.kind, .int .i64 i.n, .int .i64 i.cap, .slice ax3 i.wt.length cx3, .slice ax4 i.vl.length cx4, .slice ax5 i.cost.length cx5] 25] _ := hM
 refine S.done ?_
 refine Ends.seq ?_
 refine Ends.drawn (Mem w nof [pt b3 #[.int .i64 0, .int .i64 0, .int .i64 0, .slice none 0 0, .slice none 0 0, .slice none 0 0] 25, pt b1 #[.int .i64 i.kind, .int .i64 i.n, .int .i64 i.cap, .slice ax3 i.wt.length cx3, .slice ax4 i.vl.length cx4, .slice ax5 i.cost.length cx5] 25]) (.cons (0, true) (.cons (1, true) (.cons (3, true) (.cons (4, true) (.cons (2, false) (.cons (6, true) (.cons (5, false) (.cons (7, false) (.cons (8, true) (.cons (9, false) .nil)))))))))) 7 mixed (by kernel_rfl) (by kernel_rfl) (by kernel_rfl) hM.drew ?_
 replace hM := hM.drew
 refine D.valF hA rfl (fun _ => R.fieldAddr (q := 3) fi25_3 rfl rfl rfl) rfl ?_; clear hA a; intro a hA
 refine D.val hA rfl (by kernel_rfl) (fun _ hM => R.load sz22 rfl (hM.cell (k := 1) rfl rfl)) rfl ?_; clear hA a; intro a hA
 refine D.valF hA rfl (fun _ => R.fieldAddr (q := 4) fi25_4 rfl rfl rfl) rfl ?_; clear hA a; intro a hA
 refine D.val hA rfl (by kernel_rfl) (fun _ hM => R.load sz22 rfl (hM.cell (k := 1) rfl rfl)) rfl ?_; clear hA a; intro a hA
 refine D.call hA rfl (R.callF Try.func49 rfl rfl rfl) rfl (clone09 ax3 i.wt cx3 (by omega) _ (hx3.mem hM)) ?_; clear hA a
 rintro e w3 ⟨ka5, kc6, rfl, hn⟩
 replace hM : Mem _ _ [own 3 1 (.slice ka5 i.wt.length kc6) i.wt.length (i.wt.map (Value.int .i64)), pt b3 #[.int .i64 0, .int .i64 0, .int .i64 0, .slice none 0 0, .slice none 0 0, .slice none 0 0] 25, pt b1 #[.int .i64 i.kind, .int .i64 i.n, .int .i64 i.cap, .slice ax3 i.wt.length cx3, .slice ax4 i.vl.length cx4, .slice ax5 i.cost.length cx5] 25] _ := hM.call hn; clear hn
 refine ⟨.slice ka5 i.wt.length kc6, rfl, (hM.drop 0), fun a hA => ?_⟩
 refine D.valF hA rfl (fun _ => R.fieldAddr (q := 3) fi25_3 rfl rfl rfl) rfl ?_; clear hA a; intro a hA
 refine D.call hA rfl (R.callF Try.func49 rfl rfl rfl) rfl (clone09 ax4 i.vl cx4 (by omega) _ (hx4.mem hM)) ?_; clear hA a
 rintro e w4 ⟨ka7, kc8, rfl, hn⟩
 replace hM : Mem _ _ [own 3 1 (.slice ka7 i.vl.length kc8) i.vl.length (i.vl.map (Value.int .i64)), own 3 1 (.slice ka5 i.wt.length kc6) i.wt.length (i.wt.map (Value.int .i64)), pt b3 #[.int .i64 0, .int .i64 0, .int .i64 0, .slice none 0 0, .slice none 0 0, .slice none 0 0] 25, pt b1 #[.int .i64 i.kind, .int .i64 i.n, .int .i64 i.cap, .slice ax3 i.wt.length cx3, .slice ax4 i.vl.length cx4, .slice ax5 i.cost.length cx5] 25] _ := hM.call hn; clear hn
 refine ⟨.slice ka7 i.vl.length kc8, rfl, ((hM.drop 1).drop 0), fun a hA => ?_⟩
 refine D.store (k := 3) hA hM rfl sz22 rfl rfl rfl rfl rfl ?_; clear hM
 intro w5 hM; refine ⟨fun _ hne => absurd rfl hne, ?_⟩
 replace hM : Mem _ _ [own 3 1 (.slice ka7 i.vl.length kc8) i.vl.length (i.vl.map (Value.int .i64)), own 3 1 (.slice ka5 i.wt.length kc6) i.wt.length (i.wt.map (Value.int .i64)), pt b3 #[.int .i64 0, .int .i64 0, .int .i64 0, .slice none 0 0, .slice none 0 0, .slice none 0 0] 25, pt b1 #[.int .i64 i.kind, .int .i64 i.n, .int .i64 i.cap, .slice ka5 i.wt.length kc6, .slice ax4 i.vl.length cx4, .slice ax5 i.cost.length cx5] 25] _ := hM
 refine D.valF hA rfl (fun _ => R.fieldAddr (q := 4) fi25_4 rfl rfl rfl) rfl ?_; clear hA a; intro a hA
 refine D.store (k := 3) hA hM rfl sz22 rfl rfl rfl rfl rfl ?_; clear hM
 intro w6 hM; refine ⟨fun hb0 => absurd hb0 (by decide), ?_⟩
 replace hM : Mem _ _ [own 3 1 (.slice ka7 i.vl.length kc8) i.vl.length (i.vl.map (Value.int .i64)), own 3 1 (.slice ka5 i.wt.length kc6) i.wt.length (i.wt.map (Value.int .i64)), pt b3 #[.int .i64 0, .int .i64 0, .int .i64 0, .slice none 0 0, .slice none 0 0, .slice none 0 0] 25, pt b1 #[.int .i64 i.kind, .int .i64 i.n, .int .i64 i.cap, .slice ka5 i.wt.length kc6, .slice ka7 i.vl.length kc8, .slice ax5 i.cost.length cx5] 25] _ := hM
 refine D.done ?_
 replace hA : St 30 [(1, _), (2, _)] a := hA.sub ((.cons rfl (.cons rfl .nil)))
 refine Ends.seq (Ends.region ?_)
 refine S.val hA (R.assign rfl) rfl ?_; clear hA a; intro a hA
 refine S.done ?_
 refine Ends.seq (Ends.seq (Ends.region ?_))
 refine S.val hA (R.fieldAddr (q := 5) fi25_5 rfl rfl rfl) rfl ?_; clear hA a; intro a hA
 refine S.val hA (R.load sz23 rfl (hM.cell (k := 3) rfl rfl)) rfl ?_; clear hA a; intro a hA
 refine S.val hA (R.lenS Try.underlying23 rfl rfl) rfl ?_; clear hA a; intro a hA
 refine S.val hA (R.move rfl) rfl ?_; clear hA a; intro a hA
 refine S.done ?_
 refine Ends.block ?_
 replace hM := (hM.bundleNil (e := 3)).ownNil 22 1
 replace hM := hM.front (k := 4) rfl
 replace hM := hM.front (k := 2) rfl
 replace hM := hM.front (k := 2) rfl
 replace hM := hM.front (k := 3) rfl
 replace hM := hM.front (k := 4) rfl
 replace hM := hM.front (k := 5) rfl
 replace hM : Mem _ _ [pt b1 #[.int .i64 i.kind, .int .i64 i.n, .int .i64 i.cap, .slice ka5 i.wt.length kc6, .slice ka7 i.vl.length kc8, .slice ax5 i.cost.length cx5] 25, own 3 1 (.slice ka5 i.wt.length kc6) i.wt.length (i.wt.map (Value.int .i64)), own 3 1 (.slice ka7 i.vl.length kc8) i.vl.length (i.vl.map (Value.int .i64)), own 22 1 (.slice none (([] : List OwR).length) 0) (([] : List OwR).length) ((([] : List OwR).map orV)), bundle (([] : List OwR).map (orC 3)), pt b3 #[.int .i64 0, .int .i64 0, .int .i64 0, .slice none 0 0, .slice none 0 0, .slice none 0 0] 25] _ := hM
 refine Ends.loop (σ := Nat × Option Addr × Nat × List OwR) (fun (k, ao, co, rs) (a : Act) (wv : World) => St 30 [(1, .pointer (some ⟨b1, 0, none⟩)), (2, .pointer (some ⟨b3, 0, none⟩)), (3, .slice ao rs.length co), (15, .slice ax5 i.cost.length cx5), (16, .int .i64 ((i.cost.length : Int))), (17, .int .i64 ((k : Int)))] a ∧ Mem w nof [pt b1 #[.int .i64 i.kind, .int .i64 i.n, .int .i64 i.cap, .slice ka5 i.wt.length kc6, .slice ka7 i.vl.length kc8, .slice ax5 i.cost.length cx5] 25, own 3 1 (.slice ka5 i.wt.length kc6) i.wt.length (i.wt.map (Value.int .i64)), own 3 1 (.slice ka7 i.vl.length kc8) i.vl.length (i.vl.map (Value.int .i64)), own 22 1 (.slice ao rs.length co) rs.length ((rs.map orV)), bundle (rs.map (orC 3)), pt b3 #[.int .i64 0, .int .i64 0, .int .i64 0, .slice none 0 0, .slice none 0 0, .slice none 0 0] 25] wv ∧ (k ≤ i.cost.length) ∧ (rs.map (·.Y) = i.cost.take k)) (fun (k, ao, co, rs) => i.cost.length - k) ((0, none, 0, [])) ⟨hA.sub ((.cons rfl (.cons rfl (.cons rfl (.cons rfl (.cons rfl (.cons rfl .nil))))))), hM, (Nat.zero_le _), rfl⟩ ?_
 clear hA hM a
 rintro ⟨k, ao, co, rs⟩ a w7 ⟨hA, hM, hk, hY⟩ hNext
 refine Ends.seq (Ends.region ?_)
 refine S.val hA (R.lss rfl rfl) rfl ?_; clear hA a; intro a hA
 refine S.done ?_
 refine Ends.seq ?_
 refine Ends.ite hA rfl (fun hc9 => ?_) (fun hc9 => ?_)
 ·
  have hlr : rs.length = k := by have := congrArg List.length hY; simpa [List.length_take, Nat.min_eq_left hk] using this
  have hrow := hsm.2.2.2 _ (rowmem (show k < i.cost.length by omega))
  refine Ends.skip (Ends.seq (Ends.block (Ends.seq (Ends.region ?_))))
  refine S.val hA (R.idxR hx5 (j := k) sl23 rfl rfl (by omega) (rfl)) rfl ?_; clear hA a; intro a hA
  obtain ⟨ra10, rc11, hrow12, hld13⟩ := hx5.atP (i := k) (by omega)
  refine S.val hA (hld13 _ _ _ _ _ _ hM sz22 rfl) rfl ?_; clear hA a; intro a hA
  refine S.val hA (R.assign rfl) rfl ?_; clear hA a; intro a hA
  refine S.done ?_
  refine Ends.region ?_
  refine S.val hA (R.move rfl) rfl ?_; clear hA a; intro a hA
  refine S.val hA (R.move rfl) rfl ?_; clear hA a; intro a hA
  refine S.call hA (R.callF Try.func49 rfl rfl rfl) rfl (clone09 ra10 ((i.cost.getD k [])) rc11 (by omega) _ (hrow12.mem hM)) ?_; clear hA a
  rintro e w8 ⟨ka14, kc15, rfl, hn⟩
  replace hM : Mem _ _ [own 3 1 (.slice ka14 (((i.cost.getD k [])).length) kc15) (((i.cost.getD k [])).length) (((i.cost.getD k [])).map (Value.int .i64)), pt b1 #[.int .i64 i.kind, .int .i64 i.n, .int .i64 i.cap, .slice ka5 i.wt.length kc6, .slice ka7 i.vl.length kc8, .slice ax5 i.cost.length cx5] 25, own 3 1 (.slice ka5 i.wt.length kc6) i.wt.length (i.wt.map (Value.int .i64)), own 3 1 (.slice ka7 i.vl.length kc8) i.vl.length (i.vl.map (Value.int .i64)), own 22 1 (.slice ao rs.length co) rs.length ((rs.map orV)), bundle (rs.map (orC 3)), pt b3 #[.int .i64 0, .int .i64 0, .int .i64 0, .slice none 0 0, .slice none 0 0, .slice none 0 0] 25] _ := hM.call hn; clear hn
  refine ⟨.slice ka14 (((i.cost.getD k [])).length) kc15, rfl, fun a hA => ?_⟩
  refine S.buildSl (cells := #[.slice ka14 (((i.cost.getD k [])).length) kc15]) hA hM Try.underlying23 info22 rfl rfl rfl rfl (by kernel_rfl) rfl ?_; clear hA hM a; intro b16 w9 hb17 hM a hA
  replace hM : Mem _ _ [pt b16 #[.slice ka14 (((i.cost.getD k [])).length) kc15] 22, own 3 1 (.slice ka14 (((i.cost.getD k [])).length) kc15) (((i.cost.getD k [])).length) (((i.cost.getD k [])).map (Value.int .i64)), pt b1 #[.int .i64 i.kind, .int .i64 i.n, .int .i64 i.cap, .slice ka5 i.wt.length kc6, .slice ka7 i.vl.length kc8, .slice ax5 i.cost.length cx5] 25, own 3 1 (.slice ka5 i.wt.length kc6) i.wt.length (i.wt.map (Value.int .i64)), own 3 1 (.slice ka7 i.vl.length kc8) i.vl.length (i.vl.map (Value.int .i64)), own 22 1 (.slice ao rs.length co) rs.length ((rs.map orV)), bundle (rs.map (orC 3)), pt b3 #[.int .i64 0, .int .i64 0, .int .i64 0, .slice none 0 0, .slice none 0 0, .slice none 0 0] 25] _ := hM
  refine S.append (k := 5) (k2 := 0) hA hM rfl rfl Try.underlying23 info22 rfl rfl rfl rfl rfl rfl rfl rfl rfl (by first | omega | (show (_ + 1) * 24 ≤ (140737488355328 : Nat); omega) | (unfold maxLen; omega)) (by first | omega | (show (_ + 1) * 24 ≤ (140737488355328 : Nat); omega) | (unfold maxLen; omega)) rfl ?_; clear hA hM a; intro a18 c19 w10 hM a hA
  replace hM : Mem _ _ [pt b16 #[.slice ka14 (((i.cost.getD k [])).length) kc15] 22, own 3 1 (.slice ka14 (((i.cost.getD k [])).length) kc15) (((i.cost.getD k [])).length) (((i.cost.getD k [])).map (Value.int .i64)), pt b1 #[.int .i64 i.kind, .int .i64 i.n, .int .i64 i.cap, .slice ka5 i.wt.length kc6, .slice ka7 i.vl.length kc8, .slice ax5 i.cost.length cx5] 25, own 3 1 (.slice ka5 i.wt.length kc6) i.wt.length (i.wt.map (Value.int .i64)), own 3 1 (.slice ka7 i.vl.length kc8) i.vl.length (i.vl.map (Value.int .i64)), own 22 1 (.slice a18 (rs.length + 1) c19) (rs.length + 1) (((rs.map orV) ++ [.slice ka14 (((i.cost.getD k [])).length) kc15])), bundle (rs.map (orC 3)), pt b3 #[.int .i64 0, .int .i64 0, .int .i64 0, .slice none 0 0, .slice none 0 0, .slice none 0 0] 25] _ := hM
  replace hM := hM.drop 0
  replace hM : Mem _ _ [own 3 1 (.slice ka14 (((i.cost.getD k [])).length) kc15) (((i.cost.getD k [])).length) (((i.cost.getD k [])).map (Value.int .i64)), pt b1 #[.int .i64 i.kind, .int .i64 i.n, .int .i64 i.cap, .slice ka5 i.wt.length kc6, .slice ka7 i.vl.length kc8, .slice ax5 i.cost.length cx5] 25, own 3 1 (.slice ka5 i.wt.length kc6) i.wt.length (i.wt.map (Value.int .i64)), own 3 1 (.slice ka7 i.vl.length kc8) i.vl.length (i.vl.map (Value.int .i64)), own 22 1 (.slice a18 (rs.length + 1) c19) (rs.length + 1) (((rs.map orV) ++ [.slice ka14 (((i.cost.getD k [])).length) kc15])), bundle (rs.map (orC 3)), pt b3 #[.int .i64 0, .int .i64 0, .int .i64 0, .slice none 0 0, .slice none 0 0, .slice none 0 0] 25] _ := hM
  refine S.val hA (R.assign rfl) rfl ?_; clear hA a; intro a hA
  refine S.done ?_
  replace hA : St 30 [(1, _), (2, _), (3, _), (15, _), (16, _), (17, _)] a := hA.sub ((.cons rfl (.cons rfl (.cons rfl (.cons rfl (.cons rfl (.cons rfl .nil)))))))
  refine Ends.inBlock (Ends.region ?_)
  refine S.val hA (R.addI rfl rfl (r := ((k : Int)) + 1) rfl (by omega)) rfl ?_; clear hA a; intro a hA
  refine S.val hA (R.move rfl) rfl ?_; clear hA a; intro a hA
  refine S.done ?_
  rw [show (Value.slice ka14 ((i.cost.getD k [])).length kc15) = orV (⟨(i.cost.getD k []), ka14, kc15⟩ : OwR) from rfl, orV_snoc', len_snoc' rs (⟨(i.cost.getD k []), ka14, kc15⟩ : OwR)] at hM
  rw [len_snoc' rs (⟨(i.cost.getD k []), ka14, kc15⟩ : OwR)] at hA
  replace hM := hM.front (k := 5) rfl
  replace hM := hM.front (k := 1) rfl
  replace hM := (hM.ownOrC).bundleSnoc
  replace hM := hM.front (k := 5) rfl
  replace hM := hM.front (k := 1) rfl
  replace hM := hM.front (k := 5) rfl
  replace hM := hM.front (k := 5) rfl
  replace hM := hM.front (k := 5) rfl
  replace hM := hM.front (k := 5) rfl
  replace hM := hM.firstN 6
  exact hNext ((k + 1, a18, c19, rs ++ [(⟨(i.cost.getD k []), ka14, kc15⟩ : OwR)])) _ _ ((by show i.cost.length - (k + 1) < i.cost.length - k; omega)) ⟨hA.sub ((.cons rfl (.cons rfl (.cons rfl (.cons rfl (.cons rfl (.cons rfl .nil))))))), hM, (by omega), (by rw [List.map_append, hY, takeI_snoc (show k < i.cost.length by omega)]; rfl)⟩
 ·
  have hlr : i.cost.take k = i.cost := List.take_of_length_le (by omega)
  refine Ends.exit rfl ?_
  replace hA : St 30 [(1, _), (2, _), (3, _)] a := hA.sub ((.cons rfl (.cons rfl (.cons rfl .nil))))
  refine Ends.seq (Ends.region ?_)
  refine S.val hA (R.move rfl) rfl ?_; clear hA a; intro a hA
  refine S.val hA (R.fieldAddr (q := 5) fi25_5 rfl rfl rfl) rfl ?_; clear hA a; intro a hA
  refine S.store (k := 0) hA hM sz23 rfl rfl rfl rfl rfl ?_; clear hM
  intro w11 hM
  replace hM : Mem _ _ [pt b1 #[.int .i64 i.kind, .int .i64 i.n, .int .i64 i.cap, .slice ka5 i.wt.length kc6, .slice ka7 i.vl.length kc8, .slice ao rs.length co] 25, own 3 1 (.slice ka5 i.wt.length kc6) i.wt.length (i.wt.map (Value.int .i64)), own 3 1 (.slice ka7 i.vl.length kc8) i.vl.length (i.vl.map (Value.int .i64)), own 22 1 (.slice ao rs.length co) rs.length ((rs.map orV)), bundle (rs.map (orC 3)), pt b3 #[.int .i64 0, .int .i64 0, .int .i64 0, .slice none 0 0, .slice none 0 0, .slice none 0 0] 25] _ := hM
  refine S.done ?_
  refine Ends.seq (Ends.region ?_)
  refine S.val hA (R.loadA sz25 rfl (hM.range (k := 0) rfl) rfl) rfl ?_; clear hA a; intro a hA
  refine S.storeA (k := 5) hA hM sz25 rfl rfl rfl rfl rfl rfl ?_; clear hM
  intro w12 hM
  replace hM : Mem _ _ [pt b1 #[.int .i64 i.kind, .int .i64 i.n, .int .i64 i.cap, .slice ka5 i.wt.length kc6, .slice ka7 i.vl.length kc8, .slice ao rs.length co] 25, own 3 1 (.slice ka5 i.wt.length kc6) i.wt.length (i.wt.map (Value.int .i64)), own 3 1 (.slice ka7 i.vl.length kc8) i.vl.length (i.vl.map (Value.int .i64)), own 22 1 (.slice ao rs.length co) rs.length ((rs.map orV)), bundle (rs.map (orC 3)), pt b3 #[.int .i64 i.kind, .int .i64 i.n, .int .i64 i.cap, .slice ka5 i.wt.length kc6, .slice ka7 i.vl.length kc8, .slice ao rs.length co] 25] _ := hM
  refine S.done ?_
  replace hA : St 30 [(2, _)] a := hA.sub ((.cons rfl .nil))
  refine Ends.retC (k := 5) Try.func36 Try.results36 hA hM rfl rfl sz25 rfl ?_
  replace hM := hM.front (k := 4) rfl
  replace hM := hM.front (k := 4) rfl
  replace hM := hM.front (k := 4) rfl
  replace hM := hM.front (k := 4) rfl
  replace hM := hM.firstN 4
  exact ⟨ka5, kc6, ka7, kc8, ao, co, rs, rfl, by rw [hY, hlr], Mem.pack (cs := insL 3 22 i ka5 kc6 ka7 kc8 ao co rs) (L := []) hM⟩
set_option maxRecDepth 100000 in
set_option maxHeartbeats 400000 in
theorem stands_any  (w : World) :
    Calls Try.prog 34 #[] w fun e w' => e = .returned (.bool true) ∧ w = w' := by
  have hbs := Below.refl (B := w.heap.size) w
  have hM := Mem.start w
  refine Calls.of_ends (vs := []) Try.func34 rfl Try.ntmps34 rfl ?_
  intro a hA
  replace hA : St 12 [] a := hA
  refine Ends.seq (Ends.region ?_)
  refine S.val hA (R.assign rfl) rfl ?_; clear hA a; intro a hA
  refine S.done ?_
  refine Ends.seq (Ends.region ?_)
  refine S.call hA (R.callF Try.func52 rfl rfl rfl) rfl (add_ok 2 3 (by decide) (by decide) (by decide) (by decide) (by decide) _) ?_; clear hA a
  rintro e w1 ⟨rfl, rfl⟩
  refine ⟨.tuple #[.int .i64 5, .bool true], rfl, fun a hA => ?_⟩
  refine S.val hA (R.move rfl) rfl ?_; clear hA a; intro a hA
  refine S.val hA (R.extract (v := .int .i64 5) rfl rfl) rfl ?_; clear hA a; intro a hA
  refine S.val hA (R.extract (v := .bool true) rfl rfl) rfl ?_; clear hA a; intro a hA
  refine S.val hA (R.assign rfl) rfl ?_; clear hA a; intro a hA
  refine S.val hA (R.assign rfl) rfl ?_; clear hA a; intro a hA
  refine S.done ?_
  replace hA : St 12 [(1, _), (2, _)] a := hA.sub ((.cons rfl (.cons rfl .nil)))
  refine Ends.seq (Ends.region ?_)
  refine S.val hA (R.move rfl) rfl ?_; clear hA a; intro a hA
  refine S.val hA (R.move rfl) rfl ?_; clear hA a; intro a hA
  refine S.valg (dj := 8) hA (by kernel_rfl) rfl (R.move rfl) rfl ?_; clear hA a; intro a hA
  refine S.valg (dj := 8) hA (by kernel_rfl) rfl (R.tt (R.eql rfl rfl) (by first | decide | simp | omega)) rfl ?_; clear hA a; intro a hA
  refine S.val hA (R.pickT rfl rfl) rfl ?_; clear hA a; intro a hA
  refine S.val hA (R.assign rfl) rfl ?_; clear hA a; intro a hA
  refine S.done ?_
  replace hA : St 12 [(0, _)] a := hA.sub ((.cons rfl .nil))
  refine Ends.ret1 Try.func34 Try.results34 hA rfl ?_
  exact ⟨rfl, rfl⟩
set_option maxRecDepth 100000 in
set_option maxHeartbeats 400000 in
theorem plain08F (i : Ins) (ax3 : Option Addr) (cx3 : Nat) (ax4 : Option Addr) (cx4 : Nat) (ax5 : Option Addr) (cx5 : Nat) (hsm : i.wt.length ≤ 1000000 ∧ i.vl.length ≤ 1000000) (w : World) (hx3 : IntSl w (.slice ax3 i.wt.length cx3) i.wt) (hx4 : IntSl w (.slice ax4 i.vl.length cx4) i.vl) (hx5 : RowsV w (.slice ax5 i.cost.length cx5) i.cost) :
  Calls Try.prog 14 #[.agg #[.int .i64 i.kind, .int .i64 i.n, .int .i64 i.cap, .slice ax3 i.wt.length cx3, .slice ax4 i.vl.length cx4, .slice ax5 i.cost.length cx5]] w fun e w' => ∃ a c, e = .returned (.slice a ((plnI i)).length c) ∧ IntSl w' (.slice a ((plnI i)).length c) ((plnI i)) ∧ frs w.heap.size a ∧ Below w.heap.size w w' := by
 have hbs := Below.refl (B := w.heap.size) w
 have hM := Mem.start w
 refine Calls.of_ends (vs := [.agg #[.int .i64 i.kind, .int .i64 i.n, .int .i64 i.cap, .slice ax3 i.wt.length cx3, .slice ax4 i.vl.length cx4, .slice ax5 i.cost.length cx5]]) Try.func14 rfl Try.ntmps14 rfl ?_
 intro a hA
 replace hA : St 25 [(0, _)] a := hA
 refine Ends.seq (Ends.region ?_)
 refine S.box hA hM rfl rfl ?_; clear hA hM a; intro b1 w1 hb2 hM a hA
 replace hM : Mem _ _ [pt b1 #[.int .i64 i.kind, .int .i64 i.n, .int .i64 i.cap, .slice ax3 i.wt.length cx3, .slice ax4 i.vl.length cx4, .slice ax5 i.cost.length cx5] 25] _ := hM
 refine S.val hA (R.assign rfl) rfl ?_; clear hA a; intro a hA
 refine S.done ?_
 refine Ends.seq (Ends.seq (Ends.region ?_))
 refine S.val hA (R.loadA sz25 rfl (hM.range (k := 0) rfl) rfl) rfl ?_; clear hA a; intro a hA
 refine S.call hA (R.callF Try.func35 rfl rfl rfl) rfl (check05 i ax3 cx3 ax4 cx4 ax5 cx5 hsm _ (hx3.mem hM) (hx4.mem hM) (hx5.mem hM)) ?_; clear hA a
 rintro e w2 ⟨rfl, hb⟩
 replace hM := hM.callB hb; clear hb
 refine ⟨.int .i64 (chk i), rfl, fun a hA => ?_⟩
 refine S.val hA (R.neq rfl rfl) rfl ?_; clear hA a; intro a hA
 refine S.done ?_
 replace hA : St 25 [(1, _), (7, _)] a := hA.sub ((.cons rfl (.cons rfl .nil)))
 refine Ends.ite hA rfl (fun hc3 => ?_) (fun hc3 => ?_)
 ·
  refine Ends.seq (Ends.region ?_)
  refine S.val hA (R.assign rfl) rfl ?_; clear hA a; intro a hA
  refine S.done ?_
  refine Ends.ret1 Try.func14 Try.results14 hA rfl ?_
  have he := pln_no hc3
  exact ⟨none, 0, by rw [he]; rfl, by rw [he]; exact IntSl.nil _, (fun p hp => by cases hp), Mem.trans0 hbs hM.nilL⟩
 ·
  have hz : chk i = 0 := Decidable.not_not.1 hc3
  have hF := chk_inF hz
  have f2 := hF.n1
  have f3 := hF.n64
  have f5 := hF.wt
  have f6 := hF.vl
  have f7 := hF.cost
  have hlx0 := inF_len hF
  refine Ends.skip (Ends.seq (Ends.region ?_))
  refine S.val hA (R.fieldAddr (q := 1) fi25_1 rfl rfl rfl) rfl ?_; clear hA a; intro a hA
  refine S.val hA (R.load sz3 rfl (hM.cell (k := 0) rfl rfl)) rfl ?_; clear hA a; intro a hA
  refine S.make hA hM Try.underlying22 info3 rfl rfl rfl (by first | omega | (rw [fil_len _ _ (by omega)]; omega)) (by show (8 : Int) * _ ≤ _; omega) (by first | omega | (rw [fil_len _ _ (by omega)]; omega)) rfl ?_; clear hA hM a; intro b4 w3 hb5 hM a hA
  replace hM : Mem _ _ [pt b4 (madeCells #[.int .i64 0] (i.n.toNat * 1)) 3, pt b1 #[.int .i64 i.kind, .int .i64 i.n, .int .i64 i.cap, .slice ax3 i.wt.length cx3, .slice ax4 i.vl.length cx4, .slice ax5 i.cost.length cx5] 25] _ := hM
  rw [Nat.mul_one, made_ints] at hM
  replace hM : Mem _ _ [pt b4 ((ints (List.replicate i.n.toNat 0))) 3, pt b1 #[.int .i64 i.kind, .int .i64 i.n, .int .i64 i.cap, .slice ax3 i.wt.length cx3, .slice ax4 i.vl.length cx4, .slice ax5 i.cost.length cx5] 25] _ := hM
  refine S.val hA (R.assign rfl) rfl ?_; clear hA a; intro a hA
  refine S.done ?_
  replace hA : St 25 [(1, _), (3, _)] a := hA.sub ((.cons rfl (.cons rfl .nil)))
  refine Ends.seq (Ends.seq (Ends.region ?_))
  refine S.val hA (R.fieldAddr (q := 0) fi25_0 rfl rfl rfl) rfl ?_; clear hA a; intro a hA
  refine S.val hA (R.load sz3 rfl (hM.cell (k := 1) rfl rfl)) rfl ?_; clear hA a; intro a hA
  refine S.val hA (R.neq rfl rfl) rfl ?_; clear hA a; intro a hA
  refine S.done ?_
  refine Ends.ite hA rfl (fun hc6 => ?_) (fun hc6 => ?_)
  ·
   have hk := hc6
   refine Ends.seq (Ends.region ?_)
   refine S.val hA (R.move rfl) rfl ?_; clear hA a; intro a hA
   refine S.val hA (R.lenS Try.underlying22 rfl rfl) rfl ?_; clear hA a; intro a hA
   refine S.val hA (R.move rfl) rfl ?_; clear hA a; intro a hA
   refine S.done ?_
   replace hA : St 25 [(3, _), (15, _), (16, _)] a := hA.sub ((.cons rfl (.cons rfl (.cons rfl .nil))))
   refine Ends.block ?_
   replace hM := Mem.eqM (L2 := [pt b4 ((ints ((List.range 0).map Int.ofNat ++ List.replicate (i.n.toNat - 0) 0))) 3, pt b1 #[.int .i64 i.kind, .int .i64 i.n, .int .i64 i.cap, .slice ax3 i.wt.length cx3, .slice ax4 i.vl.length cx4, .slice ax5 i.cost.length cx5] 25]) hM (by rw [← fil_zero])
   refine Ends.loop (σ := Nat) (fun k (a : Act) (wv : World) => St 25 [(3, .slice (some ⟨b4, 0, none⟩) i.n.toNat i.n.toNat), (15, .int .i64 ((i.n.toNat : Int))), (16, .int .i64 ((k : Int)))] a ∧ Mem w nof [pt b4 ((ints ((List.range k).map Int.ofNat ++ List.replicate (i.n.toNat - k) 0))) 3, pt b1 #[.int .i64 i.kind, .int .i64 i.n, .int .i64 i.cap, .slice ax3 i.wt.length cx3, .slice ax4 i.vl.length cx4, .slice ax5 i.cost.length cx5] 25] wv ∧ (k ≤ i.n.toNat)) (fun k => i.n.toNat - k) 0 ⟨hA.sub ((.cons rfl (.cons rfl (.cons rfl .nil)))), hM, (Nat.zero_le _)⟩ ?_
   clear hA hM a
   rintro k a w4 ⟨hA, hM, hk2⟩ hNext
   refine Ends.seq (Ends.region ?_)
   refine S.val hA (R.lss rfl rfl) rfl ?_; clear hA a; intro a hA
   refine S.done ?_
   refine Ends.seq ?_
   refine Ends.ite hA rfl (fun hc7 => ?_) (fun hc7 => ?_)
   ·
    refine Ends.skip (Ends.seq (Ends.block (Ends.seq (Ends.region ?_))))
    refine S.val hA (R.move rfl) rfl ?_; clear hA a; intro a hA
    refine S.val hA (R.assign rfl) rfl ?_; clear hA a; intro a hA
    refine S.done ?_
    refine Ends.region ?_
    refine S.val hA (R.move rfl) rfl ?_; clear hA a; intro a hA
    refine S.val hA (R.move rfl) rfl ?_; clear hA a; intro a hA
    refine S.val hA (R.move rfl) rfl ?_; clear hA a; intro a hA
    refine S.val hA (R.indexAddr (q := k) sl22 rfl rfl (by first | omega | (rw [fil_len _ _ (by omega)]; omega)) (by first | omega | (rw [fil_len _ _ (by omega)]; omega))) rfl ?_; clear hA a; intro a hA
    refine S.store (k := 0) hA hM sz3 rfl rfl rfl rfl (ints_getD (((List.range k).map Int.ofNat ++ List.replicate (i.n.toNat - k) 0)) _ (by first | omega | (rw [fil_len _ _ (by omega)]; omega))) ?_; clear hM
    intro w5 hM
    rw [ints_set] at hM
    replace hM : Mem _ _ [pt b4 ((ints ((((List.range k).map Int.ofNat ++ List.replicate (i.n.toNat - k) 0)).set k ((k : Int))))) 3, pt b1 #[.int .i64 i.kind, .int .i64 i.n, .int .i64 i.cap, .slice ax3 i.wt.length cx3, .slice ax4 i.vl.length cx4, .slice ax5 i.cost.length cx5] 25] _ := hM
    refine S.done ?_
    replace hA : St 25 [(3, _), (15, _), (16, _)] a := hA.sub ((.cons rfl (.cons rfl (.cons rfl .nil))))
    refine Ends.inBlock (Ends.region ?_)
    refine S.val hA (R.addI rfl rfl (r := ((k : Int)) + 1) rfl (by first | omega | (rw [fil_len _ _ (by omega)]; omega))) rfl ?_; clear hA a; intro a hA
    refine S.val hA (R.move rfl) rfl ?_; clear hA a; intro a hA
    refine S.done ?_
    rw [fil_set _ k (by omega)] at hM
    replace hM : Mem _ _ [pt b4 ((ints ((List.range (k + 1)).map Int.ofNat ++ List.replicate (i.n.toNat - (k + 1)) 0))) 3, pt b1 #[.int .i64 i.kind, .int .i64 i.n, .int .i64 i.cap, .slice ax3 i.wt.length cx3, .slice ax4 i.vl.length cx4, .slice ax5 i.cost.length cx5] 25] _ := hM
    exact hNext ((k + 1)) _ _ ((by show i.n.toNat - (k + 1) < i.n.toNat - k; omega)) ⟨hA.sub ((.cons rfl (.cons rfl (.cons rfl .nil)))), hM, (by omega)⟩
   ·
    have hke : k = i.n.toNat := by omega
    refine Ends.exit rfl ?_
    refine Ends.seq (Ends.region ?_)
    refine S.val hA (R.move rfl) rfl ?_; clear hA a; intro a hA
    refine S.val hA (R.assign rfl) rfl ?_; clear hA a; intro a hA
    refine S.done ?_
    replace hA : St 25 [(2, _)] a := hA.sub ((.cons rfl .nil))
    refine Ends.ret1 Try.func14 Try.results14 hA rfl ?_
    have he : ((List.range k).map Int.ofNat ++ List.replicate (i.n.toNat - k) 0) = plnI i := (fil_all _ _ hke).trans (pln_or hz hk)
    rw [he] at hM
    have hpl := pln_len hz
    have hr := hM.ptRs (k := 0) (X := plnI i) rfl (by omega)
    have hf9 := hM.ptFresh (k := 0) (o := 0) rfl
    exact ⟨_, _, by rw [hpl], by rw [hpl] at hr ⊢; exact hr, hf9, Mem.trans0 hbs hM.nilL⟩
  ·
   have hk := hc6
   refine Ends.skip (Ends.seq (Ends.region ?_))
   refine S.val hA (R.move rfl) rfl ?_; clear hA a; intro a hA
   refine S.val hA (R.assign rfl) rfl ?_; clear hA a; intro a hA
   refine S.done ?_
   replace hA : St 25 [(2, _)] a := hA.sub ((.cons rfl .nil))
   refine Ends.ret1 Try.func14 Try.results14 hA rfl ?_
   have he : (List.replicate i.n.toNat 0) = plnI i := pln_kn hz (Decidable.not_not.1 hk)
   rw [he] at hM
   have hpl := pln_len hz
   have hr := hM.ptRs (k := 0) (X := plnI i) rfl (by omega)
   have hf9 := hM.ptFresh (k := 0) (o := 0) rfl
   exact ⟨_, _, by rw [hpl], by rw [hpl] at hr ⊢; exact hr, hf9, Mem.trans0 hbs hM.nilL⟩
set_option maxRecDepth 100000 in
set_option maxHeartbeats 400000 in
theorem kurganStarts_w (i : Ins) (ax3 : Option Addr) (cx3 : Nat) (ax4 : Option Addr) (cx4 : Nat) (ax5 : Option Addr) (cx5 : Nat) (hbg : i.wt.length ≤ 17592186044416 ∧ i.vl.length ≤ 17592186044416) (w : World) (hx3 : IntSl w (.slice ax3 i.wt.length cx3) i.wt) (hx4 : IntSl w (.slice ax4 i.vl.length cx4) i.vl) (hx5 : RowsV w (.slice ax5 i.cost.length cx5) i.cost) :
  Calls Try.prog 12 #[.agg #[.int .i64 i.kind, .int .i64 i.n, .int .i64 i.cap, .slice ax3 i.wt.length cx3, .slice ax4 i.vl.length cx4, .slice ax5 i.cost.length cx5]] w fun e w' => e = .returned (.bool true) ∧ Below w.heap.size w w' := by
 have hbs := Below.refl (B := w.heap.size) w
 have hM := Mem.start w
 refine Calls.of_ends (vs := [.agg #[.int .i64 i.kind, .int .i64 i.n, .int .i64 i.cap, .slice ax3 i.wt.length cx3, .slice ax4 i.vl.length cx4, .slice ax5 i.cost.length cx5]]) Try.func12 rfl Try.ntmps12 rfl ?_
 intro a hA
 replace hA : St 104 [(0, _)] a := hA
 refine Ends.seq (Ends.region ?_)
 refine S.box hA hM rfl rfl ?_; clear hA hM a; intro b1 w1 hb2 hM a hA
 replace hM : Mem _ _ [pt b1 #[.int .i64 i.kind, .int .i64 i.n, .int .i64 i.cap, .slice ax3 i.wt.length cx3, .slice ax4 i.vl.length cx4, .slice ax5 i.cost.length cx5] 25] _ := hM
 refine S.val hA (R.assign rfl) rfl ?_; clear hA a; intro a hA
 refine S.done ?_
 refine Ends.seq (Ends.seq ?_)
 refine Ends.cut (fun (a : Act) (wv : World) => St 104 [(1, .pointer (some ⟨b1, 0, none⟩)), (25, .bool (decide (((chk i) ≠ 0 ∨ 9 < i.n))))] a ∧ Mem w nof [pt b1 #[.int .i64 i.kind, .int .i64 i.n, .int .i64 i.cap, .slice ax3 i.wt.length cx3, .slice ax4 i.vl.length cx4, .slice ax5 i.cost.length cx5] 25] wv) ?_ (fun k2 hJ => ?_)
 ·
  clear hA hM a; rintro a w2 ⟨hA, hM⟩
  refine Ends.ite hA rfl (fun hc3 => ?_) (fun hc3 => ?_)
  ·
   refine Ends.seq (Ends.region ?_)
   refine S.call hA (R.callF Try.func34 rfl rfl rfl) rfl (stands_any _) ?_; clear hA a
   rintro e w3 ⟨rfl, rfl⟩
   refine ⟨.bool true, rfl, fun a hA => ?_⟩
   refine S.val hA (R.assign rfl) rfl ?_; clear hA a; intro a hA
   refine S.done ?_
   refine Ends.ret1 Try.func12 Try.results12 hA rfl ?_
   exact ⟨rfl, Mem.trans0 hbs hM.nilL⟩
  ·
   have hz : chk i = 0 := by have h9 := hc3; omega
   have hF := chk_inF hz
   have hlx0 := inF_len hF
   have hl1 := hlx0.1
   have hl2 := hlx0.2.1
   have f2 := hF.n1
   have hsmi := smallI_of hF
   have hs0 := staI_yes hz
   have hpc := pln_cost hz
   have hbc := bet_cost hpc
   have hst := bet_cost (frI_cost hz)
   have hs1 : (staI i).1 = betI i (frI i) := by rw [hs0]
   have hs2 : (staI i).2.1 = (costI i (betI i (frI i))).1 := by rw [hs0]
   have hs3 : (staI i).2.2 = 0 := by rw [hs0]
   have hcb := cost_bd i (betI i (frI i))
   have hv1 : valI i (staI i).1 = (ofI i (staI i).2.1, 0) := by rw [hs1, val_1 hst.1, hs2]
   have hlt := hst.2.2
   refine Ends.skip (Ends.seq (Ends.region ?_))
   refine S.val hA (R.loadA sz25 rfl (hM.range (k := 0) rfl) rfl) rfl ?_; clear hA a; intro a hA
   refine S.call hA (R.callF Try.func36 rfl rfl rfl) rfl (icopy05 i ax3 cx3 ax4 cx4 ax5 cx5 hsmi _ (hx3.mem hM) (hx4.mem hM) (hx5.mem hM)) ?_; clear hA a
   rintro e w4 ⟨ak3, ck3, ak4, ck4, ak5, ck5, rsk, rfl, hYk, hn⟩
   replace hM : Mem _ _ [bundle (insL 3 22 i ak3 ck3 ak4 ck4 ak5 ck5 rsk), pt b1 #[.int .i64 i.kind, .int .i64 i.n, .int .i64 i.cap, .slice ax3 i.wt.length cx3, .slice ax4 i.vl.length cx4, .slice ax5 i.cost.length cx5] 25] _ := hM.call hn; clear hn
   refine ⟨.agg #[.int .i64 i.kind, .int .i64 i.n, .int .i64 i.cap, .slice ak3 i.wt.length ck3, .slice ak4 i.vl.length ck4, .slice ak5 rsk.length ck5], rfl, fun a hA => ?_⟩
   refine S.storeA (k := 1) hA hM sz25 rfl rfl rfl rfl rfl rfl ?_; clear hM
   intro w5 hM
   replace hM : Mem _ _ [bundle (insL 3 22 i ak3 ck3 ak4 ck4 ak5 ck5 rsk), pt b1 #[.int .i64 i.kind, .int .i64 i.n, .int .i64 i.cap, .slice ak3 i.wt.length ck3, .slice ak4 i.vl.length ck4, .slice ak5 rsk.length ck5] 25] _ := hM
   refine S.done ?_
   refine Ends.seq ?_
   obtain ⟨-, hk3, hk4, hk5⟩ := insR_of hM (k := 0) rfl hYk
   have hlck : rsk.length = i.cost.length := by rw [← hYk, List.length_map]
   replace hM := hM.drop 0
   rw [hlck] at hM
   rw [hlck] at hA
   replace hM : Mem _ _ [pt b1 #[.int .i64 i.kind, .int .i64 i.n, .int .i64 i.cap, .slice ak3 i.wt.length ck3, .slice ak4 i.vl.length ck4, .slice ak5 i.cost.length ck5] 25] _ := hM
   have hbx4 := hM.block (k := 0) rfl
   have hbs := hbs.trans (hM.below.mono hbs.size)
   have hx3 := hx3.mem hM
   have hx4 := hx4.mem hM
   have hx5 := hx5.mem hM
   replace hM := Mem.start w5
   refine Ends.region ?_
   refine S.val hA (R.loadA sz25 rfl (hM.oldRange hbx4) rfl) rfl ?_; clear hA a; intro a hA
   refine S.call hA (R.callF Try.func31 rfl rfl rfl) rfl (start10 i ak3 ck3 ak4 ck4 ak5 ck5 ⟨by omega, by omega⟩ _ (hk3.mem hM) (hk4.mem hM) (hk5.mem hM)) ?_; clear hA a
   rintro e w6 ⟨ra5, rc6, rfl, rh7, hb⟩
   replace hM := hM.callB hb; clear hb
   have hbs := hbs.trans (hM.below.mono hbs.size)
   have hx3 := hx3.mem hM
   have hx4 := hx4.mem hM
   have hx5 := hx5.mem hM
   have hk3 := hk3.mem hM
   have hk4 := hk4.mem hM
   have hk5 := hk5.mem hM
   have hbx4 := hM.keepB hbx4
   replace hM := Mem.start w6
   refine ⟨.tuple #[.slice ra5 (((staI i).1).length) rc6, .int .i64 ((staI i).2.1), .int .i64 ((staI i).2.2)], rfl, fun a hA => ?_⟩
   refine S.val hA (R.move rfl) rfl ?_; clear hA a; intro a hA
   refine S.val hA (R.extract (v := .slice ra5 (((staI i).1).length) rc6) rfl rfl) rfl ?_; clear hA a; intro a hA
   refine S.val hA (R.extract (v := .int .i64 ((staI i).2.1)) rfl rfl) rfl ?_; clear hA a; intro a hA
   refine S.val hA (R.extract (v := .int .i64 ((staI i).2.2)) rfl rfl) rfl ?_; clear hA a; intro a hA
   refine S.val hA (R.assign rfl) rfl ?_; clear hA a; intro a hA
   refine S.val hA (R.assign rfl) rfl ?_; clear hA a; intro a hA
   refine S.val hA (R.assign rfl) rfl ?_; clear hA a; intro a hA
   refine S.done ?_
   replace hA : St 104 [(1, _), (3, _), (4, _), (5, _)] a := hA.sub ((.cons rfl (.cons rfl (.cons rfl (.cons rfl .nil)))))
   refine Ends.seq ?_
   refine Ends.drawn (Mem w6 nof []) (.cons (0, true) (.cons (1, true) (.cons (2, false) (.cons (3, false) (.cons (4, true) (.cons (5, true) (.cons (6, true) (.cons (7, true) (.cons (8, true) .nil))))))))) 9 mixed (by kernel_rfl) (by kernel_rfl) (by kernel_rfl) hM.drew ?_
   replace hM := hM.drew
   refine D.val hA rfl (by kernel_rfl) (fun _ hM => R.loadA sz25 rfl (hM.oldRange hbx4) rfl) rfl ?_; clear hA a; intro a hA
   refine D.val hA rfl (by kernel_rfl) (fun _ hM => R.loadA sz25 rfl (hM.oldRange hbx4) rfl) rfl ?_; clear hA a; intro a hA
   refine D.call hA rfl (R.callF Try.func14 rfl rfl rfl) rfl (plain08F i ak3 ck3 ak4 ck4 ak5 ck5 ⟨by omega, by omega⟩ _ (hk3.mem hM) (hk4.mem hM) (hk5.mem hM)) ?_; clear hA a
   rintro e w7 ⟨ra8, rc9, rfl, hli, hlf, hb⟩
   replace hM : Mem _ _ [rd ra8 rc9 ((plnI i))] _ := hM.callRd hb hli hlf; clear hb
   refine ⟨.slice ra8 (((plnI i)).length) rc9, rfl, (hM.drop 0), fun a hA => ?_⟩
   refine D.call hA rfl (R.callF Try.func29 rfl rfl rfl) rfl (better10F i ak3 ck3 ak4 ck4 ak5 ck5 ra8 ((plnI i)) rc9 ⟨by omega, by omega⟩ _ (hk3.mem hM) (hk4.mem hM) (hk5.mem hM) (hM.rd (k := 0) rfl)) ?_; clear hA a
   rintro e w8 ⟨ra10, rc11, rfl, hli, hlf, hb⟩
   replace hM : Mem _ _ [rd ra10 rc11 ((betI i ((plnI i)))), rd ra8 rc9 ((plnI i))] _ := hM.callRd hb hli hlf; clear hb
   refine ⟨.tuple #[.slice ra10 (((betI i ((plnI i)))).length) rc11, .int .i64 ((costI i ((plnI i))).2)], rfl, ((hM.drop 1).drop 0), fun a hA => ?_⟩
   refine D.valF hA rfl (fun _ => R.move rfl) rfl ?_; clear hA a; intro a hA
   refine D.valF hA rfl (fun _ => R.extract (v := .slice ra10 (((betI i ((plnI i)))).length) rc11) rfl rfl) rfl ?_; clear hA a; intro a hA
   refine D.valF hA rfl (fun _ => R.extract (v := .int .i64 ((costI i ((plnI i))).2)) rfl rfl) rfl ?_; clear hA a; intro a hA
   refine D.valF hA rfl (fun _ => R.assign rfl) rfl ?_; clear hA a; intro a hA
   refine D.valF hA rfl (fun _ => R.assign rfl) rfl ?_; clear hA a; intro a hA
   refine D.done ?_
   replace hA : St 104 [(1, _), (3, _), (4, _), (5, _), (6, _), (7, _)] a := hA.sub ((.cons rfl (.cons rfl (.cons rfl (.cons rfl (.cons rfl (.cons rfl .nil)))))))
   refine Ends.seq (Ends.region ?_)
   refine S.val hA (R.loadA sz25 rfl (hM.oldRange hbx4) rfl) rfl ?_; clear hA a; intro a hA
   refine S.val hA (R.move rfl) rfl ?_; clear hA a; intro a hA
   refine S.call hA (R.callF Try.func17 rfl rfl rfl) rfl (cost08 i ak3 ck3 ak4 ck4 ak5 ck5 ra10 ((betI i ((plnI i)))) rc11 ⟨by omega, by omega⟩ _ (hk3.mem hM) (hk4.mem hM) (hk5.mem hM) (hM.rd (k := 0) rfl)) ?_; clear hA a
   rintro e w9 ⟨rfl, hb⟩
   replace hM := hM.callB hb; clear hb
   refine ⟨.tuple #[.int .i64 ((costI i ((betI i ((plnI i))))).1), .int .i64 ((costI i ((betI i ((plnI i))))).2)], rfl, fun a hA => ?_⟩
   refine S.val hA (R.move rfl) rfl ?_; clear hA a; intro a hA
   refine S.val hA (R.extract (v := .int .i64 ((costI i ((betI i ((plnI i))))).1)) rfl rfl) rfl ?_; clear hA a; intro a hA
   refine S.val hA (R.extract (v := .int .i64 ((costI i ((betI i ((plnI i))))).2)) rfl rfl) rfl ?_; clear hA a; intro a hA
   refine S.val hA (R.assign rfl) rfl ?_; clear hA a; intro a hA
   refine S.val hA (R.assign rfl) rfl ?_; clear hA a; intro a hA
   refine S.done ?_
   replace hA : St 104 [(1, _), (3, _), (4, _), (5, _), (7, _), (8, _), (9, _)] a := hA.sub ((.cons rfl (.cons rfl (.cons rfl (.cons rfl (.cons rfl (.cons rfl (.cons rfl .nil))))))))
   refine Ends.seq ?_
   refine Ends.drawn (Mem w6 nof [rd ra10 rc11 ((betI i ((plnI i)))), rd ra8 rc9 ((plnI i))]) (.cons (0, true) (.cons (1, true) (.cons (2, false) (.cons (3, false) (.cons (4, true) (.cons (5, true) (.cons (6, true) (.cons (7, true) (.cons (8, true) .nil))))))))) 9 mixed (by kernel_rfl) (by kernel_rfl) (by kernel_rfl) hM.drew ?_
   replace hM := hM.drew
   refine D.val hA rfl (by kernel_rfl) (fun _ hM => R.loadA sz25 rfl (hM.oldRange hbx4) rfl) rfl ?_; clear hA a; intro a hA
   refine D.val hA rfl (by kernel_rfl) (fun _ hM => R.loadA sz25 rfl (hM.oldRange hbx4) rfl) rfl ?_; clear hA a; intro a hA
   refine D.call hA rfl (R.callF Try.func14 rfl rfl rfl) rfl (plain08F i ak3 ck3 ak4 ck4 ak5 ck5 ⟨by omega, by omega⟩ _ (hk3.mem hM) (hk4.mem hM) (hk5.mem hM)) ?_; clear hA a
   rintro e w10 ⟨ra12, rc13, rfl, hli, hlf, hb⟩
   replace hM : Mem _ _ [rd ra12 rc13 ((plnI i)), rd ra10 rc11 ((betI i ((plnI i)))), rd ra8 rc9 ((plnI i))] _ := hM.callRd hb hli hlf; clear hb
   refine ⟨.slice ra12 (((plnI i)).length) rc13, rfl, (hM.drop 0), fun a hA => ?_⟩
   refine D.call hA rfl (R.callF Try.func17 rfl rfl rfl) rfl (cost08 i ak3 ck3 ak4 ck4 ak5 ck5 ra12 ((plnI i)) rc13 ⟨by omega, by omega⟩ _ (hk3.mem hM) (hk4.mem hM) (hk5.mem hM) (hM.rd (k := 0) rfl)) ?_; clear hA a
   rintro e w11 ⟨rfl, hb⟩
   replace hM := hM.callB hb; clear hb
   refine ⟨.tuple #[.int .i64 ((costI i ((plnI i))).1), .int .i64 ((costI i ((plnI i))).2)], rfl, (hM.drop 0), fun a hA => ?_⟩
   refine D.valF hA rfl (fun _ => R.move rfl) rfl ?_; clear hA a; intro a hA
   refine D.valF hA rfl (fun _ => R.extract (v := .int .i64 ((costI i ((plnI i))).1)) rfl rfl) rfl ?_; clear hA a; intro a hA
   refine D.valF hA rfl (fun _ => R.extract (v := .int .i64 ((costI i ((plnI i))).2)) rfl rfl) rfl ?_; clear hA a; intro a hA
   refine D.valF hA rfl (fun _ => R.assign rfl) rfl ?_; clear hA a; intro a hA
   refine D.valF hA rfl (fun _ => R.assign rfl) rfl ?_; clear hA a; intro a hA
   refine D.done ?_
   replace hA : St 104 [(1, _), (3, _), (4, _), (5, _), (7, _), (8, _), (9, _), (10, _), (11, _)] a := hA.sub ((.cons rfl (.cons rfl (.cons rfl (.cons rfl (.cons rfl (.cons rfl (.cons rfl (.cons rfl (.cons rfl .nil))))))))))
   refine Ends.seq (Ends.region ?_)
   refine S.val hA (R.loadA sz25 rfl (hM.oldRange hbx4) rfl) rfl ?_; clear hA a; intro a hA
   refine S.val hA (R.move rfl) rfl ?_; clear hA a; intro a hA
   refine S.call hA (R.callF Try.func19 rfl rfl rfl) rfl (val08 i ak3 ck3 ak4 ck4 ak5 ck5 ra5 ((staI i).1) rc6 ⟨by omega, by omega⟩ _ (hk3.mem hM) (hk4.mem hM) (hk5.mem hM) (rh7.mem hM)) ?_; clear hA a
   rintro e w12 ⟨rfl, hb⟩
   replace hM := hM.callB hb; clear hb
   refine ⟨.tuple #[.int .i64 ((valI i ((staI i).1)).1), .int .i64 ((valI i ((staI i).1)).2)], rfl, fun a hA => ?_⟩
   refine S.val hA (R.move rfl) rfl ?_; clear hA a; intro a hA
   refine S.val hA (R.extract (v := .int .i64 ((valI i ((staI i).1)).1)) rfl rfl) rfl ?_; clear hA a; intro a hA
   refine S.val hA (R.extract (v := .int .i64 ((valI i ((staI i).1)).2)) rfl rfl) rfl ?_; clear hA a; intro a hA
   refine S.val hA (R.assign rfl) rfl ?_; clear hA a; intro a hA
   refine S.val hA (R.assign rfl) rfl ?_; clear hA a; intro a hA
   refine S.done ?_
   replace hA : St 104 [(1, _), (3, _), (4, _), (5, _), (7, _), (8, _), (9, _), (10, _), (11, _), (12, _), (13, _)] a := hA.sub ((.cons rfl (.cons rfl (.cons rfl (.cons rfl (.cons rfl (.cons rfl (.cons rfl (.cons rfl (.cons rfl (.cons rfl (.cons rfl .nil))))))))))))
   refine Ends.seq (Ends.region ?_)
   refine S.val hA (R.move rfl) rfl ?_; clear hA a; intro a hA
   refine S.val hA (R.tt (R.eql rfl rfl) (hs3)) rfl ?_; clear hA a; intro a hA
   refine S.val hA (R.move rfl) rfl ?_; clear hA a; intro a hA
   refine S.valg (dj := 63) hA (by kernel_rfl) rfl (R.move rfl) rfl ?_; clear hA a; intro a hA
   refine S.valg (dj := 63) hA (by kernel_rfl) rfl (R.tt (R.eql rfl rfl) (hpc)) rfl ?_; clear hA a; intro a hA
   refine S.val hA (R.pickT rfl rfl) rfl ?_; clear hA a; intro a hA
   refine S.val hA (R.move rfl) rfl ?_; clear hA a; intro a hA
   refine S.valg (dj := 67) hA (by kernel_rfl) rfl (R.move rfl) rfl ?_; clear hA a; intro a hA
   refine S.valg (dj := 67) hA (by kernel_rfl) rfl (R.tt (R.eql rfl rfl) (hbc.1)) rfl ?_; clear hA a; intro a hA
   refine S.val hA (R.pickT rfl rfl) rfl ?_; clear hA a; intro a hA
   refine S.val hA (R.move rfl) rfl ?_; clear hA a; intro a hA
   refine S.valg (dj := 71) hA (by kernel_rfl) rfl (R.move rfl) rfl ?_; clear hA a; intro a hA
   refine S.valg (dj := 71) hA (by kernel_rfl) rfl (R.tt (R.eql rfl rfl) (hpc)) rfl ?_; clear hA a; intro a hA
   refine S.val hA (R.pickT rfl rfl) rfl ?_; clear hA a; intro a hA
   refine S.val hA (R.move rfl) rfl ?_; clear hA a; intro a hA
   refine S.valg (dj := 75) hA (by kernel_rfl) rfl (R.move rfl) rfl ?_; clear hA a; intro a hA
   refine S.valg (dj := 75) hA (by kernel_rfl) rfl (R.tt (R.eql rfl rfl) (by rw [hv1])) rfl ?_; clear hA a; intro a hA
   refine S.val hA (R.pickT rfl rfl) rfl ?_; clear hA a; intro a hA
   refine S.val hA (R.move rfl) rfl ?_; clear hA a; intro a hA
   refine S.valg (dj := 79) hA (by kernel_rfl) rfl (R.move rfl) rfl ?_; clear hA a; intro a hA
   refine S.valg (dj := 79) hA (by kernel_rfl) rfl (R.move rfl) rfl ?_; clear hA a; intro a hA
   refine S.valg (dj := 79) hA (by kernel_rfl) rfl (R.tt (R.leq rfl rfl) (hbc.2.1)) rfl ?_; clear hA a; intro a hA
   refine S.val hA (R.pickT rfl rfl) rfl ?_; clear hA a; intro a hA
   refine S.val hA (R.move rfl) rfl ?_; clear hA a; intro a hA
   refine S.valg (dj := 84) hA (by kernel_rfl) rfl (R.move rfl) rfl ?_; clear hA a; intro a hA
   refine S.valg (dj := 84) hA (by kernel_rfl) rfl (R.loadA sz25 rfl (hM.oldRange hbx4) rfl) rfl ?_; clear hA a; intro a hA
   refine S.callg (dj := 84) hA (by kernel_rfl) rfl (R.callF Try.func18 rfl rfl rfl) rfl (tot08 i ak3 ck3 ak4 ck4 ak5 ck5 ⟨by omega, by omega⟩ _ (hk3.mem hM) (hk4.mem hM) (hk5.mem hM)) ?_; clear hA a
   rintro e w13 ⟨rfl, hb⟩
   replace hM := hM.callB hb; clear hb
   refine ⟨.int .i64 (totI i), rfl, fun a hA => ?_⟩
   refine S.valg (dj := 84) hA (by kernel_rfl) rfl (R.tt (R.leq rfl rfl) (by rw [hs2]; exact cost_tot _)) rfl ?_; clear hA a; intro a hA
   refine S.val hA (R.pickT rfl rfl) rfl ?_; clear hA a; intro a hA
   refine S.val hA (R.move rfl) rfl ?_; clear hA a; intro a hA
   refine S.valg (dj := 90) hA (by kernel_rfl) rfl (R.move rfl) rfl ?_; clear hA a; intro a hA
   refine S.valg (dj := 90) hA (by kernel_rfl) rfl (R.loadA sz25 rfl (hM.oldRange hbx4) rfl) rfl ?_; clear hA a; intro a hA
   refine S.valg (dj := 90) hA (by kernel_rfl) rfl (R.move rfl) rfl ?_; clear hA a; intro a hA
   refine S.callg (dj := 90) hA (by kernel_rfl) rfl (R.callF Try.func23 rfl rfl rfl) rfl (of08 i ak3 ck3 ak4 ck4 ak5 ck5 ((staI i).2.1) hF (by omega) _ (hk3.mem hM) (hk4.mem hM) (hk5.mem hM)) ?_; clear hA a
   rintro e w14 ⟨rfl, hb⟩
   replace hM := hM.callB hb; clear hb
   refine ⟨.int .i64 (ofI i ((staI i).2.1)), rfl, fun a hA => ?_⟩
   refine S.valg (dj := 90) hA (by kernel_rfl) rfl (R.tt (R.eql rfl rfl) (by rw [hv1])) rfl ?_; clear hA a; intro a hA
   refine S.val hA (R.pickT rfl rfl) rfl ?_; clear hA a; intro a hA
   refine S.val hA (R.move rfl) rfl ?_; clear hA a; intro a hA
   refine S.valg (dj := 97) hA (by kernel_rfl) rfl (R.move rfl) rfl ?_; clear hA a; intro a hA
   refine S.valg (dj := 97) hA (by kernel_rfl) rfl (R.lenS Try.underlying22 rfl rfl) rfl ?_; clear hA a; intro a hA
   refine S.valg (dj := 97) hA (by kernel_rfl) rfl (R.fieldAddr (q := 1) fi25_1 rfl rfl rfl) rfl ?_; clear hA a; intro a hA
   refine S.valg (dj := 97) hA (by kernel_rfl) rfl (R.load sz3 rfl (hM.cellB hbx4 rfl)) rfl ?_; clear hA a; intro a hA
   refine S.valg (dj := 97) hA (by kernel_rfl) rfl (R.tt (R.eql rfl rfl) (by rw [hs1, hlt]; omega)) rfl ?_; clear hA a; intro a hA
   refine S.val hA (R.pickT rfl rfl) rfl ?_; clear hA a; intro a hA
   refine S.val hA (R.assign rfl) rfl ?_; clear hA a; intro a hA
   refine S.done ?_
   replace hA : St 104 [(2, _)] a := hA.sub ((.cons rfl .nil))
   refine Ends.ret1 Try.func12 Try.results12 hA rfl ?_
   exact ⟨rfl, Mem.trans0 hbs hM.nilL⟩
 ·
  refine Ends.region ?_
  refine S.call hA (R.callF Try.func34 rfl rfl rfl) rfl (stands_any _) ?_; clear hA a
  rintro e w15 ⟨rfl, rfl⟩
  refine ⟨.bool true, rfl, fun a hA => ?_⟩
  refine S.val hA (R.not rfl) rfl ?_; clear hA a; intro a hA
  refine S.val hA (R.move rfl) rfl ?_; clear hA a; intro a hA
  refine S.valg (dj := 16) hA (by kernel_rfl) rfl (R.loadA sz25 rfl (hM.range (k := 0) rfl) rfl) rfl ?_; clear hA a; intro a hA
  refine S.callg (dj := 16) hA (by kernel_rfl) rfl (R.callF Try.func35 rfl rfl rfl) rfl (checkL5 i ax3 cx3 ax4 cx4 ax5 cx5 hbg _ (hx3.mem hM) (hx4.mem hM) (hx5.mem hM)) ?_; clear hA a
  rintro e w16 ⟨rfl, hb⟩
  replace hM := hM.callB hb; clear hb
  refine ⟨.int .i64 (chk i), rfl, fun a hA => ?_⟩
  refine S.valg (dj := 16) hA (by kernel_rfl) rfl (R.neq rfl rfl) rfl ?_; clear hA a; intro a hA
  refine S.val hA (R.pickF rfl rfl) rfl ?_; clear hA a; intro a hA
  refine S.val hA (R.move rfl) rfl ?_; clear hA a; intro a hA
  refine hA.split (d := 21) rfl ?_ ?_
  ·
   clear hA; intro hg14 hA
   refine S.no (dj := 21) hA (by kernel_rfl) rfl rfl rfl ?_; clear hA a; intro a hA
   refine S.no (dj := 21) hA (by kernel_rfl) rfl rfl rfl ?_; clear hA a; intro a hA
   refine S.no (dj := 21) hA (by kernel_rfl) rfl rfl rfl ?_; clear hA a; intro a hA
   refine S.val hA (R.pickT rfl rfl) rfl ?_; clear hA a; intro a hA
   refine S.done ?_
   replace hA : St 104 [(1, _), (25, _)] a := hA.sub ((.cons rfl (.cons rfl .nil)))
   exact hJ _ _ ⟨hA.sub (.cons rfl (.cons (by first | rfl | exact congrArg (fun b => some (Value.bool b)) (by first | exact decide_eq_decide.2 (by omega) | exact or_bool (by omega) | exact and_bool (by omega) | (simp; done) | (simp [hg14]; done) | (have h80 := hg14; (try simp at h80); simp [h80]; done) | exact (decide_eq_false (fun h9 => hg14 h9.1)).symm)) .nil)), hM⟩
  ·
   clear hA; intro hg14 hA
   refine S.valg (dj := 21) hA (by kernel_rfl) rfl (R.fieldAddr (q := 1) fi25_1 rfl rfl rfl) rfl ?_; clear hA a; intro a hA
   refine S.valg (dj := 21) hA (by kernel_rfl) rfl (R.load sz3 rfl (hM.cell (k := 0) rfl rfl)) rfl ?_; clear hA a; intro a hA
   refine S.valg (dj := 21) hA (by kernel_rfl) rfl (R.gtr rfl rfl) rfl ?_; clear hA a; intro a hA
   refine S.val hA (R.pickF rfl rfl) rfl ?_; clear hA a; intro a hA
   refine S.done ?_
   replace hA : St 104 [(1, _), (25, _)] a := hA.sub ((.cons rfl (.cons rfl .nil)))
   exact hJ _ _ ⟨hA.sub (.cons rfl (.cons (by first | rfl | exact congrArg (fun b => some (Value.bool b)) (by first | exact decide_eq_decide.2 (by omega) | exact or_bool (by omega) | exact and_bool (by omega) | (simp; done) | (simp [hg14]; done) | (have h80 := hg14; (try simp at h80); simp [h80]; done) | exact (decide_eq_false (fun h9 => hg14 h9.1)).symm)) .nil)), hM⟩
theorem kurganStarts_any (v : Value) (i : Ins) (w : World) (h1 : InsV w v i) (_h2 : wfI i) (h3 : i.wt.length ≤ 17592186044416 ∧ i.vl.length ≤ 17592186044416) :
    Calls Try.prog 12 #[v] w fun e w' => e = .returned (.bool true) ∧ Below w.heap.size w w' := by
  obtain ⟨aw, cw, av, cv, ac, cc, rfl, g3, g4, g5⟩ := h1.parts
  exact kurganStarts_w i aw cw av cv ac cc h3 w g3 g4 g5
end Go.Proofs.Ytnikajkklocncaa
