/-
  GreedyStarts, part 6 of 6: what the code computes, and plain laws; no condition beside those that each theorem tells.
-/
import Derived.Test.YtnikajkklocncaaGreedyStartsE
namespace Go.Proofs.Ytnikajkklocncaa
open Go.RowKit
theorem same09_u (ax : Option Addr) (X : List Int) (cx : Nat) (ay : Option Addr) (cy : Nat) (hX : X.length ≤ 9223372036854775807) (w : World) (hx : IntSl w (.slice ax X.length cx) X) (hy : IntSl w (.slice ay X.length cy) X) : Calls Try.prog 27 #[.slice ax X.length cx, .slice ay X.length cy] w fun e w' => e = .returned (.bool true) ∧ Below w.heap.size w w' := by
  have h := same09 ax X cx ay X cy hX w hx hy
  exact h.mono fun e w' ⟨h1, h2⟩ => ⟨by rw [h1]; simp, h2⟩
def iG : Ins := ⟨1, 2, 10, [6, 10], [7, 9], []⟩
theorem chk_g : chk iG = 0 := by
  have hs : shapeOK iG := .inl ⟨rfl, by decide, by decide, rfl⟩
  unfold chk
  rw [if_neg (not_not_intro (show sizeE iG = 0 by decide)), if_pos hs]
  first | rfl | decide
theorem fr_g : frI iG = [0, 1] := by
  rw [frI_kn chk_g rfl]
  decide +kernel
def fewI (i : Ins) : Ins := if 8 < (cutI i).n ∨ chk (cutI i) ≠ 0 then { cutI i with n := min (cutI i).n 9 } else cutI i
theorem few_small (i : Ins) : (fewI i).wt.length ≤ 70 ∧ (fewI i).vl.length ≤ 70 := by
  have h := cutI_small i
  unfold fewI
  split
  · exact ⟨h.1, h.2.1⟩
  · exact ⟨h.1, h.2.1⟩
def smlP (i : Ins) : Prop := chk i = 0 ∧ (i.kind = 1 ∧ i.n ≤ 9 ∨ i.n ≤ 6)
def extP (i : Ins) (x y : List Int) : Prop := y.length = i.n.toNat ∧ y.take x.length = x ∧ (costI i y).2 = 0
def bestP (i : Ins) (x : List Int) (r : Int) : Prop := -1 ≤ r ∧ r ≤ 64 * 2147483647 ∧ ∀ y, extP i x y → 0 ≤ r ∧ r ≤ (costI i y).1
def bestK (i : Ins) (x : List Int) (k : Nat) (r : Int) : Prop := -1 ≤ r ∧ r ≤ 64 * 2147483647 ∧ ∀ y, extP i x y → y.getD x.length 0 < (k : Int) → 0 ≤ r ∧ r ≤ (costI i y).1
theorem ext_all {i : Ins} {x y : List Int} (hl : x.length = i.n.toNat) (h : extP i x y) : y = x := by
  have := h.2.1
  rw [hl, ← h.1, List.take_length] at this
  exact this
theorem best_leaf1 {i : Ins} {x : List Int} (hl : x.length = i.n.toNat) (h : ¬ (costI i x).2 = 0) : bestP i x (-1) := ⟨by omega, by omega, fun y hy => by rw [ext_all hl hy] at hy; exact absurd hy.2.2 h⟩
theorem best_leaf2 {i : Ins} {x : List Int} (hl : x.length = i.n.toNat) : bestP i x (costI i x).1 := by
  have := cost_bd i x
  exact ⟨by omega, by omega, fun y hy => by rw [ext_all hl hy]; omega⟩
theorem best_zero {i : Ins} {x : List Int} (hx : ∀ y, extP i x y → 0 ≤ y.getD x.length 0) : bestK i x 0 (-1) := ⟨by omega, by omega, fun y hy h => absurd h (by have := hx y hy; omega)⟩
theorem cost_ord2 {i : Ins} {x : List Int} (h : (costI i x).2 = 0) (hk : ¬ i.kind = 1) : ordP i x := by
  have hz := costI_chk h
  refine Decidable.byContradiction fun g => ?_
  rw [costI_or hz hk, if_pos g] at h
  cases h
theorem ext_at {i : Ins} {x y : List Int} (hF : InF i) (hl : x.length < i.n.toNat) (h : extP i x y) : 0 ≤ y.getD x.length 0 ∧ y.getD x.length 0 < (if i.kind = 1 then 2 else i.n) ∧ (i.kind ≠ 1 → ¬ y.getD x.length 0 ∈ x) ∧ (i.kind = 3 → x = [] → y.getD x.length 0 = 0) := by
  obtain ⟨h1, h2, h3⟩ := h
  have hz := costI_chk h3
  have hn := hF.n1
  by_cases hk : i.kind = 1
  · rw [costI_kn hz hk] at h3
    have hb : bitP y y.length := by
      unfold knpI at h3
      split at h3
      · cases h3
      · split at h3
        · cases h3
        · rename_i g; exact Decidable.not_not.1 g
    have := hb x.length (by omega)
    rw [if_pos hk]
    exact ⟨by omega, by omega, fun g => absurd hk g, fun g => by omega⟩
  · have ho := cost_ord2 h3 hk
    have ha := ho.1.at_ hl
    rw [if_neg hk]
    refine ⟨ha.1, by omega, fun _ hm => ?_, fun g hx => by subst hx; exact ho.2 g⟩
    have hp := ho.1.2 (y.getD x.length 0).toNat (by omega)
    rw [Int.toNat_of_nonneg ha.1] at hp
    have e : y = x ++ (y.getD x.length 0 :: y.drop (x.length + 1)) := by
      conv => lhs; rw [← List.take_append_drop x.length y]
      rw [h2]
      congr 1
      rw [List.drop_eq_getElem_cons (by omega)]
      congr 1
      simp [List.getD, show x.length < y.length by omega]
    have hq : 0 < x.count (y.getD x.length 0) := List.count_pos_iff.2 hm
    generalize y.getD x.length 0 = v at hp e hq
    rw [e, List.count_append, List.count_cons_self] at hp
    omega
theorem ext_snoc {i : Ins} {x y : List Int} {k : Nat} (hl : x.length < i.n.toNat) (h : extP i x y) (e : y.getD x.length 0 = (k : Int)) : extP i (x ++ [(k : Int)]) y := by
  have hlt : x.length < y.length := by have := h.1; omega
  refine ⟨h.1, ?_, h.2.2⟩
  rw [List.length_append, List.length_singleton, take_succ_getD y x.length hlt, h.2.1, e]
theorem best_skip {i : Ins} {x : List Int} {k : Nat} {r : Int} (hF : InF i) (hl : x.length < i.n.toNat) (hb : bestK i x k r) (h : (i.kind ≠ 1 ∧ (k : Int) ∈ x) ∨ (i.kind = 3 ∧ x = [] ∧ k ≠ 0)) : bestK i x (k + 1) r := by
  refine ⟨hb.1, hb.2.1, fun y hy hlt => ?_⟩
  have ha := ext_at hF hl hy
  refine hb.2.2 y hy ?_
  have hne : y.getD x.length 0 ≠ (k : Int) := fun e => by
    rcases h with ⟨g1, g2⟩ | ⟨g1, g2, g3⟩
    · exact ha.2.2.1 g1 (by rw [e]; exact g2)
    · have := ha.2.2.2 g1 g2; omega
  omega
theorem best_take {i : Ins} {x : List Int} {k : Nat} {r c : Int} (hl : x.length < i.n.toNat) (hb : bestK i x k r) (hc : bestP i (x ++ [(k : Int)]) c) (h : 0 ≤ c ∧ (r < 0 ∨ c < r)) : bestK i x (k + 1) c := by
  refine ⟨hc.1, hc.2.1, fun y hy hlt => ?_⟩
  by_cases e : y.getD x.length 0 = (k : Int)
  · exact hc.2.2 y (ext_snoc hl hy e)
  · have := hb.2.2 y hy (by omega); omega
theorem best_leave {i : Ins} {x : List Int} {k : Nat} {r c : Int} (hl : x.length < i.n.toNat) (hb : bestK i x k r) (hc : bestP i (x ++ [(k : Int)]) c) (h : ¬ (0 ≤ c ∧ (r < 0 ∨ c < r))) : bestK i x (k + 1) r := by
  refine ⟨hb.1, hb.2.1, fun y hy hlt => ?_⟩
  by_cases e : y.getD x.length 0 = (k : Int)
  · have h2 := hc.2.2 y (ext_snoc hl hy e)
    have h1 := hb.1
    omega
  · exact hb.2.2 y hy (by omega)
theorem best_end {i : Ins} {x : List Int} {k : Nat} {r : Int} (hF : InF i) (hl : x.length < i.n.toNat) (hb : bestK i x k r) (hk : ¬ (k : Int) < (if i.kind = 1 then 2 else i.n)) : bestP i x r :=
  ⟨hb.1, hb.2.1, fun y hy => hb.2.2 y hy (by have := (ext_at hF hl hy).2.1; omega)⟩
theorem first_g (av3 : Option Addr) (cv3 : Nat) (av4 : Option Addr) (cv4 : Nat) (av5 : Option Addr) (cv5 : Nat) (w : World) (hv3 : IntSl w (.slice av3 iG.wt.length cv3) iG.wt) (hv4 : IntSl w (.slice av4 iG.vl.length cv4) iG.vl) (hv5 : RowsV w (.slice av5 iG.cost.length cv5) iG.cost) : Calls Try.prog 24 #[.agg #[.int .i64 iG.kind, .int .i64 iG.n, .int .i64 iG.cap, .slice av3 iG.wt.length cv3, .slice av4 iG.vl.length cv4, .slice av5 iG.cost.length cv5]] w (fun e w' => ∃ a c, e = .returned (.tuple #[.slice a (([0, 1] : List Int)).length c, .int .i64 0]) ∧ IntSl w' (.slice a (([0, 1] : List Int)).length c) (([0, 1] : List Int)) ∧ Below w.heap.size w w') := by
  have h := first10 iG av3 cv3 av4 cv4 av5 cv5 ⟨by decide, by decide⟩ w hv3 hv4 hv5
  rwa [fr_g, chk_g] at h
set_option maxRecDepth 100000 in
set_option maxHeartbeats 400000 in
theorem finds_any  (w : World) :
  Calls Try.prog 26 #[] w fun e w' => e = .returned (.bool true) ∧ Below w.heap.size w w' := by
 have hbs := Below.refl (B := w.heap.size) w
 have hM := Mem.start w
 refine Calls.of_ends (vs := []) Try.func26 rfl Try.ntmps26 rfl ?_
 intro a hA
 replace hA : St 29 [] a := hA
 refine Ends.seq (Ends.region ?_)
 refine S.val hA (R.assign rfl) rfl ?_; clear hA a; intro a hA
 refine S.done ?_
 refine Ends.seq (Ends.region ?_)
 refine S.buildSl (cells := #[.int .i64 6, .int .i64 10]) hA hM Try.underlying22 info3 rfl rfl rfl rfl (by kernel_rfl) rfl ?_; clear hA hM a; intro b1 w1 hb2 hM a hA
 replace hM : Mem _ _ [pt b1 #[.int .i64 6, .int .i64 10] 3] _ := hM
 refine S.buildSl (cells := #[.int .i64 7, .int .i64 9]) hA hM Try.underlying22 info3 rfl rfl rfl rfl (by kernel_rfl) rfl ?_; clear hA hM a; intro b3 w2 hb4 hM a hA
 replace hM : Mem _ _ [pt b3 #[.int .i64 7, .int .i64 9] 3, pt b1 #[.int .i64 6, .int .i64 10] 3] _ := hM
 refine S.val hA (R.build (cells := #[.int .i64 1, .int .i64 2, .int .i64 10, .slice (some ⟨b1, 0, none⟩) 2 2, .slice (some ⟨b3, 0, none⟩) 2 2, .slice none 0 0]) rfl (by kernel_rfl)) rfl ?_; clear hA a; intro a hA
 have hv3 := hM.ptRs (k := 1) (X := ([6, 10] : List Int)) rfl (by decide)
 have hv4 := hM.ptRs (k := 0) (X := ([7, 9] : List Int)) rfl (by decide)
 have hv5 := RowsV.nil w2
 replace hA : St 29 [(6, _)] a := hA.sub ((.cons rfl .nil))
 replace hM := hM.nilL
 have hbs := hbs.trans (hM.below.mono hbs.size)
 replace hM := Mem.start w2
 refine S.call hA (R.callF Try.func24 rfl rfl rfl) rfl (first_g ((some ⟨b1, 0, none⟩)) 2 ((some ⟨b3, 0, none⟩)) 2 none 0 _ (hv3.mem hM) (hv4.mem hM) (hv5.mem hM)) ?_; clear hA a
 rintro e w3 ⟨ra5, rc6, rfl, rh7, hb⟩
 replace hM := hM.callB hb; clear hb
 have hbs := hbs.trans (hM.below.mono hbs.size)
 have hv3 := hv3.mem hM
 have hv4 := hv4.mem hM
 have hv5 := hv5.mem hM
 replace hM := Mem.start w3
 refine ⟨.tuple #[.slice ra5 ((([0, 1] : List Int)).length) rc6, .int .i64 0], rfl, fun a hA => ?_⟩
 refine S.val hA (R.move rfl) rfl ?_; clear hA a; intro a hA
 refine S.val hA (R.extract (v := .slice ra5 ((([0, 1] : List Int)).length) rc6) rfl rfl) rfl ?_; clear hA a; intro a hA
 refine S.val hA (R.extract (v := .int .i64 0) rfl rfl) rfl ?_; clear hA a; intro a hA
 refine S.val hA (R.assign rfl) rfl ?_; clear hA a; intro a hA
 refine S.val hA (R.assign rfl) rfl ?_; clear hA a; intro a hA
 refine S.done ?_
 refine Ends.seq (Ends.region ?_)
 refine S.val hA (R.move rfl) rfl ?_; clear hA a; intro a hA
 refine S.val hA (R.tt (R.eql rfl rfl) (by first | decide | simp | omega)) rfl ?_; clear hA a; intro a hA
 refine S.val hA (R.move rfl) rfl ?_; clear hA a; intro a hA
 refine S.valg (dj := 12) hA (by kernel_rfl) rfl (R.move rfl) rfl ?_; clear hA a; intro a hA
 refine S.valg (dj := 12) hA (by kernel_rfl) rfl (R.lenS Try.underlying22 rfl rfl) rfl ?_; clear hA a; intro a hA
 refine S.valg (dj := 12) hA (by kernel_rfl) rfl (R.tt (R.eql rfl rfl) (by rfl)) rfl ?_; clear hA a; intro a hA
 refine S.val hA (R.pickT rfl rfl) rfl ?_; clear hA a; intro a hA
 refine S.val hA (R.move rfl) rfl ?_; clear hA a; intro a hA
 refine S.valg (dj := 17) hA (by kernel_rfl) rfl (R.move rfl) rfl ?_; clear hA a; intro a hA
 refine S.valg (dj := 17) hA (by kernel_rfl) rfl (R.idxI rh7 (j := 0) sl22 rfl rfl (by first | omega | decide) (rfl)) rfl ?_; clear hA a; intro a hA
 refine S.valg (dj := 17) hA (by kernel_rfl) rfl (R.loadI (rh7.mem hM) sz3 rfl (by first | omega | decide)) rfl ?_; clear hA a; intro a hA
 refine S.valg (dj := 17) hA (by kernel_rfl) rfl (R.tt (R.eql rfl rfl) (by rfl)) rfl ?_; clear hA a; intro a hA
 refine S.val hA (R.pickT rfl rfl) rfl ?_; clear hA a; intro a hA
 refine S.val hA (R.move rfl) rfl ?_; clear hA a; intro a hA
 refine S.valg (dj := 23) hA (by kernel_rfl) rfl (R.move rfl) rfl ?_; clear hA a; intro a hA
 refine S.valg (dj := 23) hA (by kernel_rfl) rfl (R.idxI rh7 (j := 1) sl22 rfl rfl (by first | omega | decide) (rfl)) rfl ?_; clear hA a; intro a hA
 refine S.valg (dj := 23) hA (by kernel_rfl) rfl (R.loadI (rh7.mem hM) sz3 rfl (by first | omega | decide)) rfl ?_; clear hA a; intro a hA
 refine S.valg (dj := 23) hA (by kernel_rfl) rfl (R.tt (R.eql rfl rfl) (by rfl)) rfl ?_; clear hA a; intro a hA
 refine S.val hA (R.pickT rfl rfl) rfl ?_; clear hA a; intro a hA
 refine S.val hA (R.assign rfl) rfl ?_; clear hA a; intro a hA
 refine S.done ?_
 refine Ends.ret1 Try.func26 Try.results26 hA rfl ?_
 exact ⟨rfl, Mem.trans0 hbs hM.nilL⟩
set_option maxRecDepth 100000 in
set_option maxHeartbeats 400000 in
theorem few10 (i : Ins) (ax3 : Option Addr) (cx3 : Nat) (ax4 : Option Addr) (cx4 : Nat) (ax5 : Option Addr) (cx5 : Nat) (K : Ins) (hK : K = fewI i) (w : World) (hx3 : IntSl w (.slice ax3 i.wt.length cx3) i.wt) (hx4 : IntSl w (.slice ax4 i.vl.length cx4) i.vl) (hx5 : RowsV w (.slice ax5 i.cost.length cx5) i.cost) :
  Calls Try.prog 28 #[.agg #[.int .i64 i.kind, .int .i64 i.n, .int .i64 i.cap, .slice ax3 i.wt.length cx3, .slice ax4 i.vl.length cx4, .slice ax5 i.cost.length cx5]] w fun e w' => ∃ aw cw av cv ac cc rs, e = .returned (insA K aw cw av cv ac cc rs) ∧ rs.map (·.Y) = K.cost ∧ Mem w nof [bundle (insL 3 22 K aw cw av cv ac cc rs)] w' := by
 have hbs := Below.refl (B := w.heap.size) w
 have hM := Mem.start w
 refine Calls.of_ends (vs := [.agg #[.int .i64 i.kind, .int .i64 i.n, .int .i64 i.cap, .slice ax3 i.wt.length cx3, .slice ax4 i.vl.length cx4, .slice ax5 i.cost.length cx5]]) Try.func28 rfl Try.ntmps28 rfl ?_
 intro a hA
 replace hA : St 18 [(0, _)] a := hA
 refine Ends.seq (Ends.region ?_)
 refine S.box hA hM rfl rfl ?_; clear hA hM a; intro b1 w1 hb2 hM a hA
 replace hM : Mem _ _ [pt b1 #[.int .i64 i.kind, .int .i64 i.n, .int .i64 i.cap, .slice ax3 i.wt.length cx3, .slice ax4 i.vl.length cx4, .slice ax5 i.cost.length cx5] 25] _ := hM
 refine S.alloc hA hM info25 rfl rfl ?_; clear hA hM a; intro b3 w2 hb4 hM a hA
 replace hM : Mem _ _ [pt b3 cz0 25, pt b1 #[.int .i64 i.kind, .int .i64 i.n, .int .i64 i.cap, .slice ax3 i.wt.length cx3, .slice ax4 i.vl.length cx4, .slice ax5 i.cost.length cx5] 25] _ := hM
 refine S.done ?_
 refine Ends.seq (Ends.region ?_)
 refine S.val hA (R.loadA sz25 rfl (hM.range (k := 1) rfl) rfl) rfl ?_; clear hA a; intro a hA
 obtain ⟨G, hGy⟩ : ∃ G, G = cutI i := ⟨_, rfl⟩
 have hsmy : smallI G := by rw [hGy]; exact cutI_small _
 have hscy := cutI_of_small hsmy
 have hsy1 := hsmy.1
 have hsy2 := hsmy.2.1
 have hsy3 := hsmy.2.2.1
 refine S.call hA (R.callF Try.func13 rfl rfl rfl) rfl (copyG i ax3 cx3 ax4 cx4 ax5 cx5 G hGy _ (hx3.mem hM) (hx4.mem hM) (hx5.mem hM)) ?_; clear hA a
 rintro e w3 ⟨ay3, cy3, ay4, cy4, ay5, cy5, rsy, rfl, hYy, hn⟩
 replace hM : Mem _ _ [bundle (insL 3 22 G ay3 cy3 ay4 cy4 ay5 cy5 rsy), pt b3 cz0 25, pt b1 #[.int .i64 i.kind, .int .i64 i.n, .int .i64 i.cap, .slice ax3 i.wt.length cx3, .slice ax4 i.vl.length cx4, .slice ax5 i.cost.length cx5] 25] _ := hM.call hn; clear hn
 refine ⟨.agg #[.int .i64 G.kind, .int .i64 G.n, .int .i64 G.cap, .slice ay3 G.wt.length cy3, .slice ay4 G.vl.length cy4, .slice ay5 rsy.length cy5], rfl, fun a hA => ?_⟩
 refine S.storeA (k := 2) hA hM sz25 rfl rfl rfl rfl rfl rfl ?_; clear hM
 intro w4 hM
 replace hM : Mem _ _ [bundle (insL 3 22 G ay3 cy3 ay4 cy4 ay5 cy5 rsy), pt b3 cz0 25, pt b1 #[.int .i64 G.kind, .int .i64 G.n, .int .i64 G.cap, .slice ay3 G.wt.length cy3, .slice ay4 G.vl.length cy4, .slice ay5 rsy.length cy5] 25] _ := hM
 refine S.done ?_
 have hlcy : rsy.length = G.cost.length := by rw [← hYy, List.length_map]
 rw [hlcy] at hM
 replace hM : Mem _ _ [bundle (insL 3 22 G ay3 cy3 ay4 cy4 ay5 cy5 rsy), pt b3 cz0 25, pt b1 #[.int .i64 G.kind, .int .i64 G.n, .int .i64 G.cap, .slice ay3 G.wt.length cy3, .slice ay4 G.vl.length cy4, .slice ay5 G.cost.length cy5] 25] _ := hM
 refine Ends.seq (Ends.seq ?_)
 refine Ends.cut (fun (a : Act) (wv : World) => St 18 [(1, .pointer (some ⟨b1, 0, none⟩)), (2, .pointer (some ⟨b3, 0, none⟩)), (12, .bool (decide ((8 < G.n ∨ (chk G) ≠ 0))))] a ∧ Mem w nof [bundle (insL 3 22 G ay3 cy3 ay4 cy4 ay5 cy5 rsy), pt b3 cz0 25, pt b1 #[.int .i64 G.kind, .int .i64 G.n, .int .i64 G.cap, .slice ay3 G.wt.length cy3, .slice ay4 G.vl.length cy4, .slice ay5 G.cost.length cy5] 25] wv) ?_ (fun k2 hJ => ?_)
 ·
  clear hA hM a; rintro a w5 ⟨hA, hM⟩
  refine Ends.ite hA rfl (fun hc5 => ?_) (fun hc5 => ?_)
  ·
   refine Ends.region ?_
   refine S.val hA (R.fieldAddr (q := 1) fi25_1 rfl rfl rfl) rfl ?_; clear hA a; intro a hA
   refine S.val hA (R.load sz3 rfl (hM.cell (k := 2) rfl rfl)) rfl ?_; clear hA a; intro a hA
   refine S.val hA (R.min rfl rfl) rfl ?_; clear hA a; intro a hA
   refine S.val hA (R.fieldAddr (q := 1) fi25_1 rfl rfl rfl) rfl ?_; clear hA a; intro a hA
   refine S.store (k := 2) hA hM sz3 rfl rfl rfl rfl rfl ?_; clear hM
   intro w6 hM
   replace hM : Mem _ _ [bundle (insL 3 22 G ay3 cy3 ay4 cy4 ay5 cy5 rsy), pt b3 cz0 25, pt b1 #[.int .i64 G.kind, .int .i64 (min G.n 9), .int .i64 G.cap, .slice ay3 G.wt.length cy3, .slice ay4 G.vl.length cy4, .slice ay5 G.cost.length cy5] 25] _ := hM
   refine S.done ?_
   replace hA : St 18 [(1, _), (2, _)] a := hA.sub ((.cons rfl (.cons rfl .nil)))
   refine Ends.seq (Ends.region ?_)
   refine S.val hA (R.loadA sz25 rfl (hM.range (k := 2) rfl) rfl) rfl ?_; clear hA a; intro a hA
   refine S.storeA (k := 1) hA hM sz25 rfl rfl rfl rfl rfl rfl ?_; clear hM
   intro w7 hM
   replace hM : Mem _ _ [bundle (insL 3 22 G ay3 cy3 ay4 cy4 ay5 cy5 rsy), pt b3 #[.int .i64 G.kind, .int .i64 (min G.n 9), .int .i64 G.cap, .slice ay3 G.wt.length cy3, .slice ay4 G.vl.length cy4, .slice ay5 G.cost.length cy5] 25, pt b1 #[.int .i64 G.kind, .int .i64 (min G.n 9), .int .i64 G.cap, .slice ay3 G.wt.length cy3, .slice ay4 G.vl.length cy4, .slice ay5 G.cost.length cy5] 25] _ := hM
   refine S.done ?_
   refine Ends.retC (k := 1) Try.func28 Try.results28 hA hM rfl rfl sz25 rfl ?_
   have hKe : K = { G with n := min G.n 9 } := by rw [hK]; unfold fewI; rw [← hGy]; exact if_pos hc5
   rw [hKe]
   refine ⟨ay3, cy3, ay4, cy4, ay5, cy5, rsy, by rw [← hlcy]; rfl, hYy, ?_⟩
   exact hM.firstN 1
  ·
   refine Ends.skip (Ends.seq (Ends.region ?_))
   refine S.val hA (R.loadA sz25 rfl (hM.range (k := 2) rfl) rfl) rfl ?_; clear hA a; intro a hA
   refine S.storeA (k := 1) hA hM sz25 rfl rfl rfl rfl rfl rfl ?_; clear hM
   intro w8 hM
   replace hM : Mem _ _ [bundle (insL 3 22 G ay3 cy3 ay4 cy4 ay5 cy5 rsy), pt b3 #[.int .i64 G.kind, .int .i64 G.n, .int .i64 G.cap, .slice ay3 G.wt.length cy3, .slice ay4 G.vl.length cy4, .slice ay5 G.cost.length cy5] 25, pt b1 #[.int .i64 G.kind, .int .i64 G.n, .int .i64 G.cap, .slice ay3 G.wt.length cy3, .slice ay4 G.vl.length cy4, .slice ay5 G.cost.length cy5] 25] _ := hM
   refine S.done ?_
   refine Ends.retC (k := 1) Try.func28 Try.results28 hA hM rfl rfl sz25 rfl ?_
   have hKe : K = G := by rw [hK]; unfold fewI; rw [← hGy]; exact if_neg hc5
   rw [hKe]
   refine ⟨ay3, cy3, ay4, cy4, ay5, cy5, rsy, by rw [← hlcy]; rfl, hYy, ?_⟩
   exact hM.firstN 1
 ·
  refine Ends.region ?_
  refine S.val hA (R.fieldAddr (q := 1) fi25_1 rfl rfl rfl) rfl ?_; clear hA a; intro a hA
  refine S.val hA (R.load sz3 rfl (hM.cell (k := 2) rfl rfl)) rfl ?_; clear hA a; intro a hA
  refine S.val hA (R.gtr rfl rfl) rfl ?_; clear hA a; intro a hA
  refine S.val hA (R.move rfl) rfl ?_; clear hA a; intro a hA
  refine hA.split (d := 8) rfl ?_ ?_
  ·
   clear hA; intro hg6 hA
   refine S.no (dj := 8) hA (by kernel_rfl) rfl rfl rfl ?_; clear hA a; intro a hA
   refine S.no (dj := 8) hA (by kernel_rfl) rfl rfl rfl ?_; clear hA a; intro a hA
   refine S.no (dj := 8) hA (by kernel_rfl) rfl rfl rfl ?_; clear hA a; intro a hA
   refine S.val hA (R.pickT rfl rfl) rfl ?_; clear hA a; intro a hA
   refine S.done ?_
   replace hA : St 18 [(1, _), (2, _), (12, _)] a := hA.sub ((.cons rfl (.cons rfl (.cons rfl .nil))))
   exact hJ _ _ ⟨hA.sub (.cons rfl (.cons rfl (.cons (by first | rfl | exact congrArg (fun b => some (Value.bool b)) (by first | exact decide_eq_decide.2 (by omega) | exact or_bool (by omega) | exact and_bool (by omega) | (simp; done) | (simp [hg6]; done) | (have h80 := hg6; (try simp at h80); simp [h80]; done) | exact (decide_eq_false (fun h9 => hg6 h9.1)).symm)) .nil))), hM⟩
  ·
   clear hA; intro hg6 hA
   refine S.valg (dj := 8) hA (by kernel_rfl) rfl (R.loadA sz25 rfl (hM.range (k := 2) rfl) rfl) rfl ?_; clear hA a; intro a hA
   obtain ⟨-, q3, q4, q5⟩ := insR_of hM (k := 0) rfl hYy
   refine S.callg (dj := 8) hA (by kernel_rfl) rfl (R.callF Try.func15 rfl rfl rfl) rfl (rcheck05 G ay3 cy3 ay4 cy4 ay5 cy5 _ q3 q4 q5) ?_; clear hA a
   rintro e w9 ⟨rfl, hb⟩
   replace hM := hM.callB hb; clear hb
   refine ⟨.int .i64 (chk G), rfl, fun a hA => ?_⟩
   refine S.valg (dj := 8) hA (by kernel_rfl) rfl (R.neq rfl rfl) rfl ?_; clear hA a; intro a hA
   refine S.val hA (R.pickF rfl rfl) rfl ?_; clear hA a; intro a hA
   refine S.done ?_
   replace hA : St 18 [(1, _), (2, _), (12, _)] a := hA.sub ((.cons rfl (.cons rfl (.cons rfl .nil))))
   exact hJ _ _ ⟨hA.sub (.cons rfl (.cons rfl (.cons (by first | rfl | exact congrArg (fun b => some (Value.bool b)) (by first | exact decide_eq_decide.2 (by omega) | exact or_bool (by omega) | exact and_bool (by omega) | (simp; done) | (simp [hg6]; done) | (have h80 := hg6; (try simp at h80); simp [h80]; done) | exact (decide_eq_false (fun h9 => hg6 h9.1)).symm)) .nil))), hM⟩
instance (i : Ins) : Decidable (smlP i) := by unfold smlP; infer_instance
set_option maxRecDepth 100000 in
set_option maxHeartbeats 400000 in
theorem small08 (i : Ins) (ax3 : Option Addr) (cx3 : Nat) (ax4 : Option Addr) (cx4 : Nat) (ax5 : Option Addr) (cx5 : Nat) (w : World) (hx3 : IntSl w (.slice ax3 i.wt.length cx3) i.wt) (hx4 : IntSl w (.slice ax4 i.vl.length cx4) i.vl) (hx5 : RowsV w (.slice ax5 i.cost.length cx5) i.cost) :
  Calls Try.prog 32 #[.agg #[.int .i64 i.kind, .int .i64 i.n, .int .i64 i.cap, .slice ax3 i.wt.length cx3, .slice ax4 i.vl.length cx4, .slice ax5 i.cost.length cx5]] w fun e w' => e = .returned (.bool (decide (smlP i))) ∧ Below w.heap.size w w' := by
 have hbs := Below.refl (B := w.heap.size) w
 have hM := Mem.start w
 refine Calls.of_ends (vs := [.agg #[.int .i64 i.kind, .int .i64 i.n, .int .i64 i.cap, .slice ax3 i.wt.length cx3, .slice ax4 i.vl.length cx4, .slice ax5 i.cost.length cx5]]) Try.func32 rfl Try.ntmps32 rfl ?_
 intro a hA
 replace hA : St 21 [(0, _)] a := hA
 refine Ends.seq (Ends.region ?_)
 refine S.box hA hM rfl rfl ?_; clear hA hM a; intro b1 w1 hb2 hM a hA
 replace hM : Mem _ _ [pt b1 #[.int .i64 i.kind, .int .i64 i.n, .int .i64 i.cap, .slice ax3 i.wt.length cx3, .slice ax4 i.vl.length cx4, .slice ax5 i.cost.length cx5] 25] _ := hM
 refine S.val hA (R.assign rfl) rfl ?_; clear hA a; intro a hA
 refine S.done ?_
 refine Ends.seq ?_
 refine Ends.cut (fun (a : Act) (wv : World) => St 21 [(2, .bool (decide (((chk i) = 0 ∧ ((i.kind = 1 ∧ i.n ≤ 9) ∨ i.n ≤ 6)))))] a ∧ Mem w nof [pt b1 #[.int .i64 i.kind, .int .i64 i.n, .int .i64 i.cap, .slice ax3 i.wt.length cx3, .slice ax4 i.vl.length cx4, .slice ax5 i.cost.length cx5] 25] wv) ?_ (fun k2 hJ => ?_)
 ·
  clear hA hM a; rintro a w2 ⟨hA, hM⟩
  refine Ends.ret1 Try.func32 Try.results32 hA rfl ?_
  exact ⟨congrArg (fun b => Ending.returned (.bool b)) (decide_eq_decide.2 (by unfold smlP; omega)), Mem.trans0 hbs hM.nilL⟩
 ·
  refine Ends.region ?_
  refine S.val hA (R.loadA sz25 rfl (hM.range (k := 0) rfl) rfl) rfl ?_; clear hA a; intro a hA
  refine S.call hA (R.callF Try.func15 rfl rfl rfl) rfl (rcheck05 i ax3 cx3 ax4 cx4 ax5 cx5 _ (hx3.mem hM) (hx4.mem hM) (hx5.mem hM)) ?_; clear hA a
  rintro e w3 ⟨rfl, hb⟩
  replace hM := hM.callB hb; clear hb
  refine ⟨.int .i64 (chk i), rfl, fun a hA => ?_⟩
  refine S.val hA (R.eql rfl rfl) rfl ?_; clear hA a; intro a hA
  refine S.val hA (R.move rfl) rfl ?_; clear hA a; intro a hA
  refine hA.split (d := 6) rfl ?_ ?_
  ·
   clear hA; intro hg3 hA
   refine S.valg (dj := 6) hA (by kernel_rfl) rfl (R.fieldAddr (q := 0) fi25_0 rfl rfl rfl) rfl ?_; clear hA a; intro a hA
   refine S.valg (dj := 6) hA (by kernel_rfl) rfl (R.load sz3 rfl (hM.cell (k := 0) rfl rfl)) rfl ?_; clear hA a; intro a hA
   refine S.valg (dj := 6) hA (by kernel_rfl) rfl (R.eql rfl rfl) rfl ?_; clear hA a; intro a hA
   refine S.valg (dj := 6) hA (by kernel_rfl) rfl (R.move rfl) rfl ?_; clear hA a; intro a hA
   refine hA.split (d := 10) rfl ?_ ?_
   ·
    clear hA; intro hg4 hA
    refine S.valg (dj := 10) hA (by kernel_rfl) rfl (R.fieldAddr (q := 1) fi25_1 rfl rfl rfl) rfl ?_; clear hA a; intro a hA
    refine S.valg (dj := 10) hA (by kernel_rfl) rfl (R.load sz3 rfl (hM.cell (k := 0) rfl rfl)) rfl ?_; clear hA a; intro a hA
    refine S.valg (dj := 10) hA (by kernel_rfl) rfl (R.leq rfl rfl) rfl ?_; clear hA a; intro a hA
    refine S.valg (dj := 6) hA (by kernel_rfl) rfl (R.pickT rfl rfl) rfl ?_; clear hA a; intro a hA
    refine S.valg (dj := 6) hA (by kernel_rfl) rfl (R.move rfl) rfl ?_; clear hA a; intro a hA
    refine hA.split (d := 15) rfl ?_ ?_
    ·
     clear hA; intro hg5 hA
     refine S.no (dj := 15) hA (by kernel_rfl) rfl rfl rfl ?_; clear hA a; intro a hA
     refine S.no (dj := 15) hA (by kernel_rfl) rfl rfl rfl ?_; clear hA a; intro a hA
     refine S.no (dj := 15) hA (by kernel_rfl) rfl rfl rfl ?_; clear hA a; intro a hA
     refine S.valg (dj := 6) hA (by kernel_rfl) rfl (R.pickT rfl rfl) rfl ?_; clear hA a; intro a hA
     refine S.val hA (R.pickT rfl rfl) rfl ?_; clear hA a; intro a hA
     refine S.val hA (R.assign rfl) rfl ?_; clear hA a; intro a hA
     refine S.done ?_
     replace hA : St 21 [(2, _)] a := hA.sub ((.cons rfl .nil))
     exact hJ _ _ ⟨hA.sub (.cons (by first | rfl | exact congrArg (fun b => some (Value.bool b)) (by first | exact decide_eq_decide.2 (by omega) | exact or_bool (by omega) | exact and_bool (by omega) | (simp; done) | (simp [hg3, hg4, hg5]; done) | (have h80 := hg3; (try simp at h80); have h81 := hg4; (try simp at h81); have h82 := hg5; (try simp at h82); simp [h80, h81, h82]; done) | exact (decide_eq_false (fun h9 => hg3 h9.1)).symm | exact (decide_eq_false (fun h9 => hg4 h9.1)).symm | exact (decide_eq_false (fun h9 => hg5 h9.1)).symm)) .nil), hM⟩
    ·
     clear hA; intro hg5 hA
     refine S.valg (dj := 15) hA (by kernel_rfl) rfl (R.fieldAddr (q := 1) fi25_1 rfl rfl rfl) rfl ?_; clear hA a; intro a hA
     refine S.valg (dj := 15) hA (by kernel_rfl) rfl (R.load sz3 rfl (hM.cell (k := 0) rfl rfl)) rfl ?_; clear hA a; intro a hA
     refine S.valg (dj := 15) hA (by kernel_rfl) rfl (R.leq rfl rfl) rfl ?_; clear hA a; intro a hA
     refine S.valg (dj := 6) hA (by kernel_rfl) rfl (R.pickF rfl rfl) rfl ?_; clear hA a; intro a hA
     refine S.val hA (R.pickT rfl rfl) rfl ?_; clear hA a; intro a hA
     refine S.val hA (R.assign rfl) rfl ?_; clear hA a; intro a hA
     refine S.done ?_
     replace hA : St 21 [(2, _)] a := hA.sub ((.cons rfl .nil))
     exact hJ _ _ ⟨hA.sub (.cons (by first | rfl | exact congrArg (fun b => some (Value.bool b)) (by first | exact decide_eq_decide.2 (by omega) | exact or_bool (by omega) | exact and_bool (by omega) | (simp; done) | (simp [hg3, hg4, hg5]; done) | (have h80 := hg3; (try simp at h80); have h81 := hg4; (try simp at h81); have h82 := hg5; (try simp at h82); simp [h80, h81, h82]; done) | exact (decide_eq_false (fun h9 => hg3 h9.1)).symm | exact (decide_eq_false (fun h9 => hg4 h9.1)).symm | exact (decide_eq_false (fun h9 => hg5 h9.1)).symm)) .nil), hM⟩
   ·
    clear hA; intro hg4 hA
    refine S.no (dj := 10) hA (by kernel_rfl) rfl rfl rfl ?_; clear hA a; intro a hA
    refine S.no (dj := 10) hA (by kernel_rfl) rfl rfl rfl ?_; clear hA a; intro a hA
    refine S.no (dj := 10) hA (by kernel_rfl) rfl rfl rfl ?_; clear hA a; intro a hA
    refine S.valg (dj := 6) hA (by kernel_rfl) rfl (R.pickF rfl rfl) rfl ?_; clear hA a; intro a hA
    refine S.valg (dj := 6) hA (by kernel_rfl) rfl (R.move rfl) rfl ?_; clear hA a; intro a hA
    refine S.valg (dj := 15) hA (by kernel_rfl) rfl (R.fieldAddr (q := 1) fi25_1 rfl rfl rfl) rfl ?_; clear hA a; intro a hA
    refine S.valg (dj := 15) hA (by kernel_rfl) rfl (R.load sz3 rfl (hM.cell (k := 0) rfl rfl)) rfl ?_; clear hA a; intro a hA
    refine S.valg (dj := 15) hA (by kernel_rfl) rfl (R.leq rfl rfl) rfl ?_; clear hA a; intro a hA
    refine S.valg (dj := 6) hA (by kernel_rfl) rfl (R.pickF rfl rfl) rfl ?_; clear hA a; intro a hA
    refine S.val hA (R.pickT rfl rfl) rfl ?_; clear hA a; intro a hA
    refine S.val hA (R.assign rfl) rfl ?_; clear hA a; intro a hA
    refine S.done ?_
    replace hA : St 21 [(2, _)] a := hA.sub ((.cons rfl .nil))
    exact hJ _ _ ⟨hA.sub (.cons (by first | rfl | exact congrArg (fun b => some (Value.bool b)) (by first | exact decide_eq_decide.2 (by omega) | exact or_bool (by omega) | exact and_bool (by omega) | (simp; done) | (simp [hg3, hg4]; done) | (have h80 := hg3; (try simp at h80); have h81 := hg4; (try simp at h81); simp [h80, h81]; done) | exact (decide_eq_false (fun h9 => hg3 h9.1)).symm | exact (decide_eq_false (fun h9 => hg4 h9.1)).symm)) .nil), hM⟩
  ·
   clear hA; intro hg3 hA
   refine S.no (dj := 6) hA (by kernel_rfl) rfl rfl rfl ?_; clear hA a; intro a hA
   refine S.no (dj := 6) hA (by kernel_rfl) rfl rfl rfl ?_; clear hA a; intro a hA
   refine S.no (dj := 6) hA (by kernel_rfl) rfl rfl rfl ?_; clear hA a; intro a hA
   refine S.no (dj := 6) hA (by kernel_rfl) rfl rfl rfl ?_; clear hA a; intro a hA
   refine S.noU (dj := 10) hA (by kernel_rfl) rfl rfl ?_; clear hA a; intro a hA
   refine S.noU (dj := 10) hA (by kernel_rfl) rfl rfl ?_; clear hA a; intro a hA
   refine S.noU (dj := 10) hA (by kernel_rfl) rfl rfl ?_; clear hA a; intro a hA
   refine S.no (dj := 6) hA (by kernel_rfl) rfl rfl rfl ?_; clear hA a; intro a hA
   refine S.no (dj := 6) hA (by kernel_rfl) rfl rfl rfl ?_; clear hA a; intro a hA
   refine S.noU (dj := 15) hA (by kernel_rfl) rfl rfl ?_; clear hA a; intro a hA
   refine S.noU (dj := 15) hA (by kernel_rfl) rfl rfl ?_; clear hA a; intro a hA
   refine S.noU (dj := 15) hA (by kernel_rfl) rfl rfl ?_; clear hA a; intro a hA
   refine S.no (dj := 6) hA (by kernel_rfl) rfl rfl rfl ?_; clear hA a; intro a hA
   refine S.val hA (R.pickF rfl rfl) rfl ?_; clear hA a; intro a hA
   refine S.val hA (R.assign rfl) rfl ?_; clear hA a; intro a hA
   refine S.done ?_
   replace hA : St 21 [(2, _)] a := hA.sub ((.cons rfl .nil))
   exact hJ _ _ ⟨hA.sub (.cons (by first | rfl | exact congrArg (fun b => some (Value.bool b)) (by first | exact decide_eq_decide.2 (by omega) | exact or_bool (by omega) | exact and_bool (by omega) | (simp; done) | (simp [hg3]; done) | (have h80 := hg3; (try simp at h80); simp [h80]; done) | exact (decide_eq_false (fun h9 => hg3 h9.1)).symm)) .nil), hM⟩
def BestAt (i : Ins) (d : Nat) : Prop := ∀ (ax3 : Option Addr) (cx3 : Nat) (ax4 : Option Addr) (cx4 : Nat) (ax5 : Option Addr) (cx5 : Nat) (ay : Option Addr) (x : List Int) (cy : Nat) (w : World) (hx3 : IntSl w (.slice ax3 i.wt.length cx3) i.wt) (hx4 : IntSl w (.slice ax4 i.vl.length cx4) i.vl) (hx5 : RowsV w (.slice ax5 i.cost.length cx5) i.cost) (hy : IntSl w (.slice ay x.length cy) x), x.length + d = i.n.toNat → Calls Try.prog 33 #[.agg #[.int .i64 i.kind, .int .i64 i.n, .int .i64 i.cap, .slice ax3 i.wt.length cx3, .slice ax4 i.vl.length cx4, .slice ax5 i.cost.length cx5], .slice ay x.length cy] w (fun e w' => ∃ r, e = .returned (.int .i64 r) ∧ bestP i x r ∧ Below w.heap.size w w')
set_option maxRecDepth 100000 in
set_option maxHeartbeats 400000 in
theorem best_step (i : Ins) (ax3 : Option Addr) (cx3 : Nat) (ax4 : Option Addr) (cx4 : Nat) (ax5 : Option Addr) (cx5 : Nat) (ay : Option Addr) (x : List Int) (cy : Nat) (hF : InF i) (d : Nat) (ih : BestAt i (d - 1)) (hd : x.length + d = i.n.toNat) (w : World) (hx3 : IntSl w (.slice ax3 i.wt.length cx3) i.wt) (hx4 : IntSl w (.slice ax4 i.vl.length cx4) i.vl) (hx5 : RowsV w (.slice ax5 i.cost.length cx5) i.cost) (hy : IntSl w (.slice ay x.length cy) x) :
  Calls Try.prog 33 #[.agg #[.int .i64 i.kind, .int .i64 i.n, .int .i64 i.cap, .slice ax3 i.wt.length cx3, .slice ax4 i.vl.length cx4, .slice ax5 i.cost.length cx5], .slice ay x.length cy] w fun e w' => ∃ r, e = .returned (.int .i64 r) ∧ bestP i x r ∧ Below w.heap.size w w' := by
 have hbs := Below.refl (B := w.heap.size) w
 have f1 := hF.n1
 have f3 := hF.n64
 have hlx := hy.lenB
 have hM := Mem.start w
 refine Calls.of_ends (vs := [.agg #[.int .i64 i.kind, .int .i64 i.n, .int .i64 i.cap, .slice ax3 i.wt.length cx3, .slice ax4 i.vl.length cx4, .slice ax5 i.cost.length cx5], .slice ay x.length cy]) Try.func33 rfl Try.ntmps33 rfl ?_
 intro a hA
 replace hA : St 93 [(0, _), (1, _)] a := hA
 refine Ends.seq (Ends.region ?_)
 refine S.box hA hM rfl rfl ?_; clear hA hM a; intro b1 w1 hb2 hM a hA
 replace hM : Mem _ _ [pt b1 #[.int .i64 i.kind, .int .i64 i.n, .int .i64 i.cap, .slice ax3 i.wt.length cx3, .slice ax4 i.vl.length cx4, .slice ax5 i.cost.length cx5] 25] _ := hM
 refine S.val hA (R.assign rfl) rfl ?_; clear hA a; intro a hA
 refine S.done ?_
 refine Ends.seq (Ends.seq (Ends.region ?_))
 refine S.val hA (R.move rfl) rfl ?_; clear hA a; intro a hA
 refine S.val hA (R.lenS Try.underlying22 rfl rfl) rfl ?_; clear hA a; intro a hA
 refine S.val hA (R.fieldAddr (q := 1) fi25_1 rfl rfl rfl) rfl ?_; clear hA a; intro a hA
 refine S.val hA (R.load sz3 rfl (hM.cell (k := 0) rfl rfl)) rfl ?_; clear hA a; intro a hA
 refine S.val hA (R.eql rfl rfl) rfl ?_; clear hA a; intro a hA
 refine S.done ?_
 replace hA : St 93 [(1, _), (2, _), (17, _)] a := hA.sub ((.cons rfl (.cons rfl (.cons rfl .nil))))
 refine Ends.ite hA rfl (fun hc3 => ?_) (fun hc3 => ?_)
 ·
  have hxl : x.length = i.n.toNat := by omega
  refine Ends.seq (Ends.region ?_)
  refine S.val hA (R.loadA sz25 rfl (hM.range (k := 0) rfl) rfl) rfl ?_; clear hA a; intro a hA
  refine S.val hA (R.move rfl) rfl ?_; clear hA a; intro a hA
  refine S.call hA (R.callF Try.func20 rfl rfl rfl) rfl (rcost08 i ax3 cx3 ax4 cx4 ax5 cx5 ay x cy _ (hx3.mem hM) (hx4.mem hM) (hx5.mem hM) (hy.mem hM)) ?_; clear hA a
  rintro e w2 ⟨rfl, hb⟩
  replace hM := hM.callB hb; clear hb
  refine ⟨.tuple #[.int .i64 ((costI i x).1), .int .i64 ((costI i x).2)], rfl, fun a hA => ?_⟩
  refine S.val hA (R.move rfl) rfl ?_; clear hA a; intro a hA
  refine S.val hA (R.extract (v := .int .i64 ((costI i x).1)) rfl rfl) rfl ?_; clear hA a; intro a hA
  refine S.val hA (R.extract (v := .int .i64 ((costI i x).2)) rfl rfl) rfl ?_; clear hA a; intro a hA
  refine S.val hA (R.assign rfl) rfl ?_; clear hA a; intro a hA
  refine S.val hA (R.assign rfl) rfl ?_; clear hA a; intro a hA
  refine S.done ?_
  replace hA : St 93 [(1, _), (2, _), (5, _), (6, _)] a := hA.sub ((.cons rfl (.cons rfl (.cons rfl (.cons rfl .nil)))))
  refine Ends.seq (Ends.seq (Ends.region ?_))
  refine S.val hA (R.move rfl) rfl ?_; clear hA a; intro a hA
  refine S.val hA (R.neq rfl rfl) rfl ?_; clear hA a; intro a hA
  refine S.done ?_
  refine Ends.ite hA rfl (fun hc4 => ?_) (fun hc4 => ?_)
  ·
   have hz0 : ¬ (costI i x).2 = 0 := hc4
   refine Ends.seq (Ends.region ?_)
   refine S.val hA (R.assign rfl) rfl ?_; clear hA a; intro a hA
   refine S.done ?_
   refine Ends.ret1 Try.func33 Try.results33 hA rfl ?_
   exact ⟨_, rfl, best_leaf1 hxl hz0, Mem.trans0 hbs hM.nilL⟩
  ·
   refine Ends.skip (Ends.seq (Ends.region ?_))
   refine S.val hA (R.move rfl) rfl ?_; clear hA a; intro a hA
   refine S.val hA (R.assign rfl) rfl ?_; clear hA a; intro a hA
   refine S.done ?_
   replace hA : St 93 [(1, _), (2, _), (4, _)] a := hA.sub ((.cons rfl (.cons rfl (.cons rfl .nil))))
   refine Ends.ret1 Try.func33 Try.results33 hA rfl ?_
   exact ⟨_, rfl, best_leaf2 hxl, Mem.trans0 hbs hM.nilL⟩
 ·
  have hxl : x.length < i.n.toNat := by omega
  have hx0 : bestK i x 0 (-1) := best_zero fun y hy => (ext_at hF hxl hy).1
  refine Ends.skip (Ends.seq (Ends.region ?_))
  refine S.val hA (R.assign rfl) rfl ?_; clear hA a; intro a hA
  refine S.done ?_
  refine Ends.seq (Ends.region ?_)
  refine S.val hA (R.fieldAddr (q := 1) fi25_1 rfl rfl rfl) rfl ?_; clear hA a; intro a hA
  refine S.val hA (R.load sz3 rfl (hM.cell (k := 0) rfl rfl)) rfl ?_; clear hA a; intro a hA
  refine S.val hA (R.assign rfl) rfl ?_; clear hA a; intro a hA
  refine S.done ?_
  refine Ends.seq (Ends.seq (Ends.region ?_))
  refine S.val hA (R.fieldAddr (q := 0) fi25_0 rfl rfl rfl) rfl ?_; clear hA a; intro a hA
  refine S.val hA (R.load sz3 rfl (hM.cell (k := 0) rfl rfl)) rfl ?_; clear hA a; intro a hA
  refine S.val hA (R.eql rfl rfl) rfl ?_; clear hA a; intro a hA
  refine S.done ?_
  replace hA : St 93 [(1, _), (2, _), (7, _), (8, _), (31, _)] a := hA.sub ((.cons rfl (.cons rfl (.cons rfl (.cons rfl (.cons rfl .nil))))))
  refine Ends.ite hA rfl (fun hc5 => ?_) (fun hc5 => ?_)
  ·
   have hkn := hc5
   have hmo : (if i.kind = 1 then 2 else i.n) = 2 := if_pos hkn
   refine Ends.region ?_
   refine S.val hA (R.assign rfl) rfl ?_; clear hA a; intro a hA
   refine S.done ?_
   refine Ends.seq (Ends.seq (Ends.region ?_))
   refine S.val hA (R.assign rfl) rfl ?_; clear hA a; intro a hA
   refine S.done ?_
   refine Ends.block ?_
   refine Ends.loop (σ := Nat × Int) (fun (k, r) (a : Act) (wv : World) => St 93 [(1, .slice ay x.length cy), (2, .pointer (some ⟨b1, 0, none⟩)), (7, .int .i64 r), (8, .int .i64 2), (9, .int .i64 ((k : Int)))] a ∧ Mem w nof [pt b1 #[.int .i64 i.kind, .int .i64 i.n, .int .i64 i.cap, .slice ax3 i.wt.length cx3, .slice ax4 i.vl.length cx4, .slice ax5 i.cost.length cx5] 25] wv ∧ ((k : Int) ≤ (if i.kind = 1 then 2 else i.n)) ∧ (bestK i x k r)) (fun (k, r) => 64 - k) ((0, -1)) ⟨hA.sub ((.cons rfl (.cons rfl (.cons rfl (.cons rfl (.cons rfl .nil)))))), hM, (by rw [hmo]; omega), hx0⟩ ?_
   clear hA hM a
   rintro ⟨k, r⟩ a w3 ⟨hA, hM, hk, hbk⟩ hNext
   refine Ends.seq (Ends.seq (Ends.region ?_))
   refine S.val hA (R.move rfl) rfl ?_; clear hA a; intro a hA
   refine S.val hA (R.move rfl) rfl ?_; clear hA a; intro a hA
   refine S.val hA (R.lss rfl rfl) rfl ?_; clear hA a; intro a hA
   refine S.done ?_
   refine Ends.ite hA rfl (fun hc6 => ?_) (fun hc6 => ?_)
   ·
    refine Ends.skip (Ends.seq (Ends.block (Ends.seq (Ends.region ?_))))
    refine S.val hA (R.assign rfl) rfl ?_; clear hA a; intro a hA
    refine S.done ?_
    refine Ends.seq (Ends.seq (Ends.region ?_))
    refine S.val hA (R.assign rfl) rfl ?_; clear hA a; intro a hA
    refine S.done ?_
    refine Ends.block ?_
    rw [show (Value.bool false) = .bool (decide ((k : Int) ∈ x.take 0)) by simp] at hA
    refine Ends.loop (σ := Nat) (fun z (a : Act) (wv : World) => St 93 [(1, .slice ay x.length cy), (2, .pointer (some ⟨b1, 0, none⟩)), (7, .int .i64 r), (8, .int .i64 2), (9, .int .i64 ((k : Int))), (10, .bool (decide ((k : Int) ∈ x.take z))), (11, .int .i64 ((z : Int)))] a ∧ Mem w nof [pt b1 #[.int .i64 i.kind, .int .i64 i.n, .int .i64 i.cap, .slice ax3 i.wt.length cx3, .slice ax4 i.vl.length cx4, .slice ax5 i.cost.length cx5] 25] wv ∧ (z ≤ x.length) ∧ (i.kind = 1 → z = 0)) (fun z => x.length - z) 0 ⟨hA.sub ((.cons rfl (.cons rfl (.cons rfl (.cons rfl (.cons rfl (.cons rfl (.cons rfl .nil)))))))), hM, (Nat.zero_le _), (fun _ => rfl)⟩ ?_
    clear hA hM a
    rintro z a w4 ⟨hA, hM, hz, hz1⟩ hNext1
    refine Ends.seq (Ends.seq ?_)
    refine Ends.cut (fun (a : Act) (wv : World) => St 93 [(1, .slice ay x.length cy), (2, .pointer (some ⟨b1, 0, none⟩)), (7, .int .i64 r), (8, .int .i64 2), (9, .int .i64 ((k : Int))), (10, .bool (decide ((k : Int) ∈ x.take z))), (11, .int .i64 ((z : Int))), (45, .bool (decide ((((z : Int)) < ((x.length : Int)) ∧ i.kind ≠ 1))))] a ∧ Mem w nof [pt b1 #[.int .i64 i.kind, .int .i64 i.n, .int .i64 i.cap, .slice ax3 i.wt.length cx3, .slice ax4 i.vl.length cx4, .slice ax5 i.cost.length cx5] 25] wv) ?_ (fun k2 hJ => ?_)
    ·
     clear hA hM a; rintro a w5 ⟨hA, hM⟩
     refine Ends.ite hA rfl (fun hc7 => ?_) (fun hc7 => ?_)
     ·
      refine Ends.skip (Ends.seq (Ends.block ?_))
      refine Ends.cut (fun (a : Act) (wv : World) => St 93 [(1, .slice ay x.length cy), (2, .pointer (some ⟨b1, 0, none⟩)), (7, .int .i64 r), (8, .int .i64 2), (9, .int .i64 ((k : Int))), (10, .bool (decide (((k : Int) ∈ x.take z ∨ (x.getD z 0) = ((k : Int)))))), (11, .int .i64 ((z : Int)))] a ∧ Mem w nof [pt b1 #[.int .i64 i.kind, .int .i64 i.n, .int .i64 i.cap, .slice ax3 i.wt.length cx3, .slice ax4 i.vl.length cx4, .slice ax5 i.cost.length cx5] 25] wv) ?_ (fun k2 hJ => ?_)
      ·
       clear hA hM a; rintro a w6 ⟨hA, hM⟩
       refine Ends.inBlock (Ends.region ?_)
       refine S.val hA (R.move rfl) rfl ?_; clear hA a; intro a hA
       refine S.val hA (R.addI rfl rfl (r := ((z : Int)) + 1) rfl (by omega)) rfl ?_; clear hA a; intro a hA
       refine S.val hA (R.assign rfl) rfl ?_; clear hA a; intro a hA
       refine S.done ?_
       rw [show decide (((k : Int) ∈ x.take z ∨ (x.getD z 0) = ((k : Int)))) = decide ((k : Int) ∈ x.take (z + 1)) from decide_eq_decide.2 (by rw [take_succ_getD x z (by omega), List.mem_append, List.mem_singleton]; exact ⟨fun h => h.elim .inl fun g => .inr g.symm, fun h => h.elim .inl fun g => .inr g.symm⟩)] at hA
       exact hNext1 ((z + 1)) _ _ ((by show x.length - (z + 1) < x.length - z; omega)) ⟨hA.sub ((.cons rfl (.cons rfl (.cons rfl (.cons rfl (.cons rfl (.cons rfl (.cons rfl .nil)))))))), hM, (by omega), (fun e9 => by omega)⟩
      ·
       refine Ends.region ?_
       refine S.val hA (R.move rfl) rfl ?_; clear hA a; intro a hA
       refine S.val hA (R.move rfl) rfl ?_; clear hA a; intro a hA
       refine hA.split (d := 49) rfl ?_ ?_
       ·
        clear hA; intro hg8 hA
        refine S.no (dj := 49) hA (by kernel_rfl) rfl rfl rfl ?_; clear hA a; intro a hA
        refine S.no (dj := 49) hA (by kernel_rfl) rfl rfl rfl ?_; clear hA a; intro a hA
        refine S.no (dj := 49) hA (by kernel_rfl) rfl rfl rfl ?_; clear hA a; intro a hA
        refine S.no (dj := 49) hA (by kernel_rfl) rfl rfl rfl ?_; clear hA a; intro a hA
        refine S.no (dj := 49) hA (by kernel_rfl) rfl rfl rfl ?_; clear hA a; intro a hA
        refine S.no (dj := 49) hA (by kernel_rfl) rfl rfl rfl ?_; clear hA a; intro a hA
        refine S.val hA (R.pickT rfl rfl) rfl ?_; clear hA a; intro a hA
        refine S.val hA (R.assign rfl) rfl ?_; clear hA a; intro a hA
        refine S.done ?_
        replace hA : St 93 [(1, _), (2, _), (7, _), (8, _), (9, _), (10, _), (11, _)] a := hA.sub ((.cons rfl (.cons rfl (.cons rfl (.cons rfl (.cons rfl (.cons rfl (.cons rfl .nil))))))))
        exact hJ _ _ ⟨hA.sub (.cons rfl (.cons rfl (.cons rfl (.cons rfl (.cons rfl (.cons (by first | rfl | exact congrArg (fun b => some (Value.bool b)) (by first | exact decide_eq_decide.2 (by omega) | exact or_bool (by omega) | exact and_bool (by omega) | (simp; done) | (simp [hg8]; done) | (have h80 := hg8; (try simp at h80); simp [h80]; done) | exact (decide_eq_false (fun h9 => hg8 h9.1)).symm)) (.cons rfl .nil))))))), hM⟩
       ·
        clear hA; intro hg8 hA
        refine S.valg (dj := 49) hA (by kernel_rfl) rfl (R.move rfl) rfl ?_; clear hA a; intro a hA
        refine S.valg (dj := 49) hA (by kernel_rfl) rfl (R.move rfl) rfl ?_; clear hA a; intro a hA
        refine S.valg (dj := 49) hA (by kernel_rfl) rfl (R.idxI hy (j := z) sl22 rfl rfl (by omega) (rfl)) rfl ?_; clear hA a; intro a hA
        refine S.valg (dj := 49) hA (by kernel_rfl) rfl (R.loadI (hy.mem hM) sz3 rfl (by omega)) rfl ?_; clear hA a; intro a hA
        refine S.valg (dj := 49) hA (by kernel_rfl) rfl (R.move rfl) rfl ?_; clear hA a; intro a hA
        refine S.valg (dj := 49) hA (by kernel_rfl) rfl (R.eql rfl rfl) rfl ?_; clear hA a; intro a hA
        refine S.val hA (R.pickF rfl rfl) rfl ?_; clear hA a; intro a hA
        refine S.val hA (R.assign rfl) rfl ?_; clear hA a; intro a hA
        refine S.done ?_
        replace hA : St 93 [(1, _), (2, _), (7, _), (8, _), (9, _), (10, _), (11, _)] a := hA.sub ((.cons rfl (.cons rfl (.cons rfl (.cons rfl (.cons rfl (.cons rfl (.cons rfl .nil))))))))
        exact hJ _ _ ⟨hA.sub (.cons rfl (.cons rfl (.cons rfl (.cons rfl (.cons rfl (.cons (by first | rfl | exact congrArg (fun b => some (Value.bool b)) (by first | exact decide_eq_decide.2 (by omega) | exact or_bool (by omega) | exact and_bool (by omega) | (simp; done) | (simp [hg8]; done) | (have h80 := hg8; (try simp at h80); simp [h80]; done) | exact (decide_eq_false (fun h9 => hg8 h9.1)).symm)) (.cons rfl .nil))))))), hM⟩
     ·
      have hzd : i.kind = 1 ∨ z = x.length := by by_cases e9 : i.kind = 1; exact .inl e9; exact .inr (by have h9 := hc7; omega)
      have hus : (k : Int) ∈ x.take z ↔ (¬ i.kind = 1 ∧ (k : Int) ∈ x) := by
       rcases hzd with e9 | e9
       · rw [hz1 e9]; simp [e9]
       ·
        by_cases e8 : i.kind = 1
        · rw [hz1 e8]; simp [e8]
        · rw [e9, List.take_length]; simp [e8]
      refine Ends.exit rfl ?_
      refine Ends.seq (Ends.seq ?_)
      refine Ends.cut (fun (a : Act) (wv : World) => St 93 [(1, .slice ay x.length cy), (2, .pointer (some ⟨b1, 0, none⟩)), (7, .int .i64 r), (8, .int .i64 2), (9, .int .i64 ((k : Int))), (71, .bool (decide (((k : Int) ∈ x.take z ∨ ((i.kind = 3 ∧ ((x.length : Int)) = 0) ∧ ((k : Int)) ≠ 0)))))] a ∧ Mem w nof [pt b1 #[.int .i64 i.kind, .int .i64 i.n, .int .i64 i.cap, .slice ax3 i.wt.length cx3, .slice ax4 i.vl.length cx4, .slice ax5 i.cost.length cx5] 25] wv) ?_ (fun k2 hJ => ?_)
      ·
       clear hA hM a; rintro a w7 ⟨hA, hM⟩
       refine Ends.ite hA rfl (fun hc9 => ?_) (fun hc9 => ?_)
       ·
        have hsk := hc9
        have hbk2 := best_skip hF hxl hbk (by
         rcases hsk with g | ⟨⟨g1, g2⟩, g3⟩
         · exact .inl (hus.1 g)
         · exact .inr ⟨g1, List.length_eq_zero_iff.1 (by omega), fun e9 => g3 (by omega)⟩)
        refine Ends.exit rfl ?_
        refine Ends.region ?_
        refine S.val hA (R.move rfl) rfl ?_; clear hA a; intro a hA
        refine S.val hA (R.addI rfl rfl (r := ((k : Int)) + 1) rfl (by omega)) rfl ?_; clear hA a; intro a hA
        refine S.val hA (R.assign rfl) rfl ?_; clear hA a; intro a hA
        refine S.done ?_
        replace hM := hM.firstN 1
        replace hM : Mem _ _ [pt b1 #[.int .i64 i.kind, .int .i64 i.n, .int .i64 i.cap, .slice ax3 i.wt.length cx3, .slice ax4 i.vl.length cx4, .slice ax5 i.cost.length cx5] 25] _ := hM
        exact hNext ((k + 1, r)) _ _ ((by show 64 - (k + 1) < 64 - k; omega)) ⟨hA.sub ((.cons rfl (.cons rfl (.cons rfl (.cons rfl (.cons rfl .nil)))))), hM, (by omega), hbk2⟩
       ·
        have hsk := hc9
        refine Ends.skip (Ends.seq ?_)
        refine Ends.drawn (Mem w nof [pt b1 #[.int .i64 i.kind, .int .i64 i.n, .int .i64 i.cap, .slice ax3 i.wt.length cx3, .slice ax4 i.vl.length cx4, .slice ax5 i.cost.length cx5] 25]) (.cons (0, true) (.cons (2, true) (.cons (4, true) (.fork 1 5 (.fork 3 5 (.cons (5, false) (.cons (6, false) (.cons (7, false) (.cons (8, true) .nil)))) (.cons (3, false) (.cons (6, false) (.cons (7, false) (.cons (8, true) .nil))))) (.cons (1, false) (.cons (3, false) (.cons (6, false) (.cons (7, false) (.cons (8, true) .nil))))))))) 9 mixed (by kernel_rfl) (by kernel_rfl) (by kernel_rfl) hM.drew ?_
        replace hM := hM.drew
        refine D.val hA rfl (by kernel_rfl) (fun _ hM => R.loadA sz25 rfl (hM.range (k := 0) rfl) rfl) rfl ?_; clear hA a; intro a hA
        refine D.valF hA rfl (fun _ => R.move rfl) rfl ?_; clear hA a; intro a hA
        refine D.valF hA rfl (fun _ => R.move rfl) rfl ?_; clear hA a; intro a hA
        refine D.fork rfl rfl ?_ ?_
        ·
         refine D.buildSl0 hA hM rfl Try.underlying22 info3 rfl ?_; clear hA hM a; intro b10 w8 hb11 hM; refine ⟨(fun hM => hM) hM.tail, fun a hA => ?_⟩
         replace hM := hM.ownPt (cap := 0) (n := 0) (sz := 1) (xs := []) rfl (Nat.zero_le _) (Nat.le_refl _) rfl
         replace hM : Mem _ _ [own 3 1 (.slice ((some ⟨b10, 0, none⟩)) 0 0) 0 ((([] : List Int)).map (Value.int .i64)), pt b1 #[.int .i64 i.kind, .int .i64 i.n, .int .i64 i.cap, .slice ax3 i.wt.length cx3, .slice ax4 i.vl.length cx4, .slice ax5 i.cost.length cx5] 25] _ := hM
         refine D.fork rfl rfl ?_ ?_
         ·
          refine D.appendI2 (k := 0) hA hM rfl rfl (hy.mem hM) Try.underlying22 info3 rfl rfl rfl rfl rfl rfl (by first | (unfold maxLen; omega) | (show (_ + _) * 8 ≤ (140737488355328 : Nat); omega) | omega) (by first | (unfold maxLen; omega) | (show (_ + _) * 8 ≤ (140737488355328 : Nat); omega) | omega) rfl ?_; clear hA hM a; intro a12 c13 w9 hM
          have hl14 : 0 + x.length = x.length := by first | (simp; done) | simp only [List.length_append]
          rw [hl14, show (([] : List Int)).map (Value.int .i64) ++ x.map (Value.int .i64) = x.map (Value.int .i64) by simp] at hM
          replace hM : Mem _ _ [own 3 1 (.slice a12 x.length c13) x.length (x.map (Value.int .i64)), pt b1 #[.int .i64 i.kind, .int .i64 i.n, .int .i64 i.cap, .slice ax3 i.wt.length cx3, .slice ax4 i.vl.length cx4, .slice ax5 i.cost.length cx5] 25] _ := hM
          refine ⟨(hM.drop 0), fun a hA => ?_⟩; rw [hl14] at hA; clear hl14
          refine D.buildSl (cells := #[.int .i64 ((k : Int))]) hA hM rfl Try.underlying22 info3 rfl rfl rfl rfl (by kernel_rfl) rfl ?_; clear hA hM a; intro b15 w10 hb16 hM; refine ⟨(fun hM => (hM.drop 0)) hM.tail, fun a hA => ?_⟩
          replace hM : Mem _ _ [pt b15 #[.int .i64 ((k : Int))] 3, own 3 1 (.slice a12 x.length c13) x.length (x.map (Value.int .i64)), pt b1 #[.int .i64 i.kind, .int .i64 i.n, .int .i64 i.cap, .slice ax3 i.wt.length cx3, .slice ax4 i.vl.length cx4, .slice ax5 i.cost.length cx5] 25] _ := hM
          refine D.append (k := 1) (k2 := 0) hA hM rfl rfl rfl Try.underlying22 info3 rfl rfl rfl rfl rfl rfl rfl rfl rfl (by first | (unfold maxLen; omega) | (show (_ + _) * 8 ≤ (140737488355328 : Nat); omega) | omega) (by first | (unfold maxLen; omega) | (show (_ + _) * 8 ≤ (140737488355328 : Nat); omega) | omega) rfl ?_; clear hA hM a; intro a17 c18 w11 hM
          replace hM : Mem _ _ [pt b15 #[.int .i64 ((k : Int))] 3, own 3 1 (.slice a17 (x.length + 1) c18) (x.length + 1) (x.map (Value.int .i64) ++ [.int .i64 ((k : Int))]), pt b1 #[.int .i64 i.kind, .int .i64 i.n, .int .i64 i.cap, .slice ax3 i.wt.length cx3, .slice ax4 i.vl.length cx4, .slice ax5 i.cost.length cx5] 25] _ := hM
          have hl19 : x.length + 1 = (x ++ [(k : Int)]).length := by simp
          rw [hl19, show x.map (Value.int .i64) ++ [.int .i64 ((k : Int))] = (x ++ [(k : Int)]).map (Value.int .i64) by simp] at hM
          replace hM := hM.drop 0
          replace hM : Mem _ _ [own 3 1 (.slice a17 (((x ++ [(k : Int)])).length) c18) (((x ++ [(k : Int)])).length) (((x ++ [(k : Int)])).map (Value.int .i64)), pt b1 #[.int .i64 i.kind, .int .i64 i.n, .int .i64 i.cap, .slice ax3 i.wt.length cx3, .slice ax4 i.vl.length cx4, .slice ax5 i.cost.length cx5] 25] _ := hM
          refine ⟨(hM.drop 0), fun a hA => ?_⟩; rw [hl19] at hA; clear hl19
          refine D.call hA rfl (R.callF Try.func33 rfl rfl rfl) rfl (ih ax3 cx3 ax4 cx4 ax5 cx5 a17 (x ++ [(k : Int)]) c18 _ (hx3.mem hM) (hx4.mem hM) (hx5.mem hM) (hM.rsl (k := 0) rfl) (by rw [List.length_append, List.length_singleton]; omega)) ?_; clear hA a
          rintro e w12 ⟨bv, rfl, hbv, hb⟩
          replace hM := hM.callB hb; clear hb
          have hbv1 := hbv.1
          have hbv2 := hbv.2.1
          refine ⟨.int .i64 bv, rfl, (hM.drop 0), fun a hA => ?_⟩
          refine D.valF hA rfl (fun _ => R.assign rfl) rfl ?_; clear hA a; intro a hA
          refine D.done ?_
          replace hA : St 93 [(1, _), (2, _), (7, _), (8, _), (9, _), (12, _)] a := hA.sub ((.cons rfl (.cons rfl (.cons rfl (.cons rfl (.cons rfl (.cons rfl .nil)))))))
          refine Ends.seq ?_
          refine Ends.cut (fun (a : Act) (wv : World) => St 93 [(1, .slice ay x.length cy), (2, .pointer (some ⟨b1, 0, none⟩)), (7, .int .i64 r), (8, .int .i64 2), (9, .int .i64 ((k : Int))), (12, .int .i64 bv), (90, .bool (decide ((0 ≤ bv ∧ (r < 0 ∨ bv < r)))))] a ∧ Mem w nof [own 3 1 (.slice a17 (((x ++ [(k : Int)])).length) c18) (((x ++ [(k : Int)])).length) (((x ++ [(k : Int)])).map (Value.int .i64)), pt b1 #[.int .i64 i.kind, .int .i64 i.n, .int .i64 i.cap, .slice ax3 i.wt.length cx3, .slice ax4 i.vl.length cx4, .slice ax5 i.cost.length cx5] 25] wv) ?_ (fun k2 hJ => ?_)
          ·
           clear hA hM a; rintro a w13 ⟨hA, hM⟩
           refine Ends.ite hA rfl (fun hc20 => ?_) (fun hc20 => ?_)
           ·
            have hbk2 := best_take hxl hbk hbv hc20
            refine Ends.region ?_
            refine S.val hA (R.move rfl) rfl ?_; clear hA a; intro a hA
            refine S.val hA (R.assign rfl) rfl ?_; clear hA a; intro a hA
            refine S.done ?_
            refine Ends.inBlock (Ends.region ?_)
            refine S.val hA (R.move rfl) rfl ?_; clear hA a; intro a hA
            refine S.val hA (R.addI rfl rfl (r := ((k : Int)) + 1) rfl (by omega)) rfl ?_; clear hA a; intro a hA
            refine S.val hA (R.assign rfl) rfl ?_; clear hA a; intro a hA
            refine S.done ?_
            replace hA : St 93 [(1, _), (2, _), (7, _), (8, _), (9, _)] a := hA.sub ((.cons rfl (.cons rfl (.cons rfl (.cons rfl (.cons rfl .nil))))))
            replace hM := hM.front (k := 1) rfl
            replace hM := hM.firstN 1
            replace hM : Mem _ _ [pt b1 #[.int .i64 i.kind, .int .i64 i.n, .int .i64 i.cap, .slice ax3 i.wt.length cx3, .slice ax4 i.vl.length cx4, .slice ax5 i.cost.length cx5] 25] _ := hM
            exact hNext ((k + 1, bv)) _ _ ((by show 64 - (k + 1) < 64 - k; omega)) ⟨hA.sub ((.cons rfl (.cons rfl (.cons rfl (.cons rfl (.cons rfl .nil)))))), hM, (by omega), hbk2⟩
           ·
            have hbk2 := best_leave hxl hbk hbv hc20
            refine Ends.skip (Ends.inBlock (Ends.region ?_))
            refine S.val hA (R.move rfl) rfl ?_; clear hA a; intro a hA
            refine S.val hA (R.addI rfl rfl (r := ((k : Int)) + 1) rfl (by omega)) rfl ?_; clear hA a; intro a hA
            refine S.val hA (R.assign rfl) rfl ?_; clear hA a; intro a hA
            refine S.done ?_
            replace hA : St 93 [(1, _), (2, _), (7, _), (8, _), (9, _)] a := hA.sub ((.cons rfl (.cons rfl (.cons rfl (.cons rfl (.cons rfl .nil))))))
            replace hM := hM.front (k := 1) rfl
            replace hM := hM.firstN 1
            replace hM : Mem _ _ [pt b1 #[.int .i64 i.kind, .int .i64 i.n, .int .i64 i.cap, .slice ax3 i.wt.length cx3, .slice ax4 i.vl.length cx4, .slice ax5 i.cost.length cx5] 25] _ := hM
            exact hNext ((k + 1, r)) _ _ ((by show 64 - (k + 1) < 64 - k; omega)) ⟨hA.sub ((.cons rfl (.cons rfl (.cons rfl (.cons rfl (.cons rfl .nil)))))), hM, (by omega), hbk2⟩
          ·
           refine Ends.region ?_
           refine S.val hA (R.move rfl) rfl ?_; clear hA a; intro a hA
           refine S.val hA (R.geq rfl rfl) rfl ?_; clear hA a; intro a hA
           refine S.val hA (R.move rfl) rfl ?_; clear hA a; intro a hA
           refine hA.split (d := 82) rfl ?_ ?_
           ·
            clear hA; intro hg21 hA
            refine S.valg (dj := 82) hA (by kernel_rfl) rfl (R.move rfl) rfl ?_; clear hA a; intro a hA
            refine S.valg (dj := 82) hA (by kernel_rfl) rfl (R.lss rfl rfl) rfl ?_; clear hA a; intro a hA
            refine S.valg (dj := 82) hA (by kernel_rfl) rfl (R.move rfl) rfl ?_; clear hA a; intro a hA
            refine hA.split (d := 85) rfl ?_ ?_
            ·
             clear hA; intro hg22 hA
             refine S.no (dj := 85) hA (by kernel_rfl) rfl rfl rfl ?_; clear hA a; intro a hA
             refine S.no (dj := 85) hA (by kernel_rfl) rfl rfl rfl ?_; clear hA a; intro a hA
             refine S.no (dj := 85) hA (by kernel_rfl) rfl rfl rfl ?_; clear hA a; intro a hA
             refine S.valg (dj := 82) hA (by kernel_rfl) rfl (R.pickT rfl rfl) rfl ?_; clear hA a; intro a hA
             refine S.val hA (R.pickT rfl rfl) rfl ?_; clear hA a; intro a hA
             refine S.done ?_
             replace hA : St 93 [(1, _), (2, _), (7, _), (8, _), (9, _), (12, _), (90, _)] a := hA.sub ((.cons rfl (.cons rfl (.cons rfl (.cons rfl (.cons rfl (.cons rfl (.cons rfl .nil))))))))
             exact hJ _ _ ⟨hA.sub (.cons rfl (.cons rfl (.cons rfl (.cons rfl (.cons rfl (.cons rfl (.cons (by first | rfl | exact congrArg (fun b => some (Value.bool b)) (by first | exact decide_eq_decide.2 (by omega) | exact or_bool (by omega) | exact and_bool (by omega) | (simp; done) | (simp [hg21, hg22]; done) | (have h80 := hg21; (try simp at h80); have h81 := hg22; (try simp at h81); simp [h80, h81]; done) | exact (decide_eq_false (fun h9 => hg21 h9.1)).symm | exact (decide_eq_false (fun h9 => hg22 h9.1)).symm)) .nil))))))), hM⟩
            ·
             clear hA; intro hg22 hA
             refine S.valg (dj := 85) hA (by kernel_rfl) rfl (R.move rfl) rfl ?_; clear hA a; intro a hA
             refine S.valg (dj := 85) hA (by kernel_rfl) rfl (R.move rfl) rfl ?_; clear hA a; intro a hA
             refine S.valg (dj := 85) hA (by kernel_rfl) rfl (R.lss rfl rfl) rfl ?_; clear hA a; intro a hA
             refine S.valg (dj := 82) hA (by kernel_rfl) rfl (R.pickF rfl rfl) rfl ?_; clear hA a; intro a hA
             refine S.val hA (R.pickT rfl rfl) rfl ?_; clear hA a; intro a hA
             refine S.done ?_
             replace hA : St 93 [(1, _), (2, _), (7, _), (8, _), (9, _), (12, _), (90, _)] a := hA.sub ((.cons rfl (.cons rfl (.cons rfl (.cons rfl (.cons rfl (.cons rfl (.cons rfl .nil))))))))
             exact hJ _ _ ⟨hA.sub (.cons rfl (.cons rfl (.cons rfl (.cons rfl (.cons rfl (.cons rfl (.cons (by first | rfl | exact congrArg (fun b => some (Value.bool b)) (by first | exact decide_eq_decide.2 (by omega) | exact or_bool (by omega) | exact and_bool (by omega) | (simp; done) | (simp [hg21, hg22]; done) | (have h80 := hg21; (try simp at h80); have h81 := hg22; (try simp at h81); simp [h80, h81]; done) | exact (decide_eq_false (fun h9 => hg21 h9.1)).symm | exact (decide_eq_false (fun h9 => hg22 h9.1)).symm)) .nil))))))), hM⟩
           ·
            clear hA; intro hg21 hA
            refine S.no (dj := 82) hA (by kernel_rfl) rfl rfl rfl ?_; clear hA a; intro a hA
            refine S.no (dj := 82) hA (by kernel_rfl) rfl rfl rfl ?_; clear hA a; intro a hA
            refine S.no (dj := 82) hA (by kernel_rfl) rfl rfl rfl ?_; clear hA a; intro a hA
            refine S.noU (dj := 85) hA (by kernel_rfl) rfl rfl ?_; clear hA a; intro a hA
            refine S.noU (dj := 85) hA (by kernel_rfl) rfl rfl ?_; clear hA a; intro a hA
            refine S.noU (dj := 85) hA (by kernel_rfl) rfl rfl ?_; clear hA a; intro a hA
            refine S.no (dj := 82) hA (by kernel_rfl) rfl rfl rfl ?_; clear hA a; intro a hA
            refine S.val hA (R.pickF rfl rfl) rfl ?_; clear hA a; intro a hA
            refine S.done ?_
            replace hA : St 93 [(1, _), (2, _), (7, _), (8, _), (9, _), (12, _), (90, _)] a := hA.sub ((.cons rfl (.cons rfl (.cons rfl (.cons rfl (.cons rfl (.cons rfl (.cons rfl .nil))))))))
            exact hJ _ _ ⟨hA.sub (.cons rfl (.cons rfl (.cons rfl (.cons rfl (.cons rfl (.cons rfl (.cons (by first | rfl | exact congrArg (fun b => some (Value.bool b)) (by first | exact decide_eq_decide.2 (by omega) | exact or_bool (by omega) | exact and_bool (by omega) | (simp; done) | (simp [hg21]; done) | (have h80 := hg21; (try simp at h80); simp [h80]; done) | exact (decide_eq_false (fun h9 => hg21 h9.1)).symm)) .nil))))))), hM⟩
         ·
          refine D.buildSl (cells := #[.int .i64 ((k : Int))]) hA hM rfl Try.underlying22 info3 rfl rfl rfl rfl (by kernel_rfl) rfl ?_; clear hA hM a; intro b23 w14 hb24 hM; refine ⟨(fun hM => (hM.drop 0)) hM.tail, fun a hA => ?_⟩
          replace hM : Mem _ _ [pt b23 #[.int .i64 ((k : Int))] 3, own 3 1 (.slice ((some ⟨b10, 0, none⟩)) 0 0) 0 ((([] : List Int)).map (Value.int .i64)), pt b1 #[.int .i64 i.kind, .int .i64 i.n, .int .i64 i.cap, .slice ax3 i.wt.length cx3, .slice ax4 i.vl.length cx4, .slice ax5 i.cost.length cx5] 25] _ := hM
          refine D.appendI2 (k := 1) hA hM rfl rfl (hy.mem hM) Try.underlying22 info3 rfl rfl rfl rfl rfl rfl (by first | (unfold maxLen; omega) | (show (_ + _) * 8 ≤ (140737488355328 : Nat); omega) | omega) (by first | (unfold maxLen; omega) | (show (_ + _) * 8 ≤ (140737488355328 : Nat); omega) | omega) rfl ?_; clear hA hM a; intro a25 c26 w15 hM
          have hl27 : 0 + x.length = x.length := by first | (simp; done) | simp only [List.length_append]
          rw [hl27, show (([] : List Int)).map (Value.int .i64) ++ x.map (Value.int .i64) = x.map (Value.int .i64) by simp] at hM
          replace hM : Mem _ _ [pt b23 #[.int .i64 ((k : Int))] 3, own 3 1 (.slice a25 x.length c26) x.length (x.map (Value.int .i64)), pt b1 #[.int .i64 i.kind, .int .i64 i.n, .int .i64 i.cap, .slice ax3 i.wt.length cx3, .slice ax4 i.vl.length cx4, .slice ax5 i.cost.length cx5] 25] _ := hM
          refine ⟨((hM.drop 1).drop 0), fun a hA => ?_⟩; rw [hl27] at hA; clear hl27
          refine D.append (k := 1) (k2 := 0) hA hM rfl rfl rfl Try.underlying22 info3 rfl rfl rfl rfl rfl rfl rfl rfl rfl (by first | (unfold maxLen; omega) | (show (_ + _) * 8 ≤ (140737488355328 : Nat); omega) | omega) (by first | (unfold maxLen; omega) | (show (_ + _) * 8 ≤ (140737488355328 : Nat); omega) | omega) rfl ?_; clear hA hM a; intro a28 c29 w16 hM
          replace hM : Mem _ _ [pt b23 #[.int .i64 ((k : Int))] 3, own 3 1 (.slice a28 (x.length + 1) c29) (x.length + 1) (x.map (Value.int .i64) ++ [.int .i64 ((k : Int))]), pt b1 #[.int .i64 i.kind, .int .i64 i.n, .int .i64 i.cap, .slice ax3 i.wt.length cx3, .slice ax4 i.vl.length cx4, .slice ax5 i.cost.length cx5] 25] _ := hM
          have hl30 : x.length + 1 = (x ++ [(k : Int)]).length := by simp
          rw [hl30, show x.map (Value.int .i64) ++ [.int .i64 ((k : Int))] = (x ++ [(k : Int)]).map (Value.int .i64) by simp] at hM
          replace hM := hM.drop 0
          replace hM : Mem _ _ [own 3 1 (.slice a28 (((x ++ [(k : Int)])).length) c29) (((x ++ [(k : Int)])).length) (((x ++ [(k : Int)])).map (Value.int .i64)), pt b1 #[.int .i64 i.kind, .int .i64 i.n, .int .i64 i.cap, .slice ax3 i.wt.length cx3, .slice ax4 i.vl.length cx4, .slice ax5 i.cost.length cx5] 25] _ := hM
          refine ⟨(hM.drop 0), fun a hA => ?_⟩; rw [hl30] at hA; clear hl30
          refine D.call hA rfl (R.callF Try.func33 rfl rfl rfl) rfl (ih ax3 cx3 ax4 cx4 ax5 cx5 a28 (x ++ [(k : Int)]) c29 _ (hx3.mem hM) (hx4.mem hM) (hx5.mem hM) (hM.rsl (k := 0) rfl) (by rw [List.length_append, List.length_singleton]; omega)) ?_; clear hA a
          rintro e w17 ⟨bv, rfl, hbv, hb⟩
          replace hM := hM.callB hb; clear hb
          have hbv1 := hbv.1
          have hbv2 := hbv.2.1
          refine ⟨.int .i64 bv, rfl, (hM.drop 0), fun a hA => ?_⟩
          refine D.valF hA rfl (fun _ => R.assign rfl) rfl ?_; clear hA a; intro a hA
          refine D.done ?_
          replace hA : St 93 [(1, _), (2, _), (7, _), (8, _), (9, _), (12, _)] a := hA.sub ((.cons rfl (.cons rfl (.cons rfl (.cons rfl (.cons rfl (.cons rfl .nil)))))))
          refine Ends.seq ?_
          refine Ends.cut (fun (a : Act) (wv : World) => St 93 [(1, .slice ay x.length cy), (2, .pointer (some ⟨b1, 0, none⟩)), (7, .int .i64 r), (8, .int .i64 2), (9, .int .i64 ((k : Int))), (12, .int .i64 bv), (90, .bool (decide ((0 ≤ bv ∧ (r < 0 ∨ bv < r)))))] a ∧ Mem w nof [own 3 1 (.slice a28 (((x ++ [(k : Int)])).length) c29) (((x ++ [(k : Int)])).length) (((x ++ [(k : Int)])).map (Value.int .i64)), pt b1 #[.int .i64 i.kind, .int .i64 i.n, .int .i64 i.cap, .slice ax3 i.wt.length cx3, .slice ax4 i.vl.length cx4, .slice ax5 i.cost.length cx5] 25] wv) ?_ (fun k2 hJ => ?_)
          ·
           clear hA hM a; rintro a w18 ⟨hA, hM⟩
           refine Ends.ite hA rfl (fun hc31 => ?_) (fun hc31 => ?_)
           ·
            have hbk2 := best_take hxl hbk hbv hc31
            refine Ends.region ?_
            refine S.val hA (R.move rfl) rfl ?_; clear hA a; intro a hA
            refine S.val hA (R.assign rfl) rfl ?_; clear hA a; intro a hA
            refine S.done ?_
            refine Ends.inBlock (Ends.region ?_)
            refine S.val hA (R.move rfl) rfl ?_; clear hA a; intro a hA
            refine S.val hA (R.addI rfl rfl (r := ((k : Int)) + 1) rfl (by omega)) rfl ?_; clear hA a; intro a hA
            refine S.val hA (R.assign rfl) rfl ?_; clear hA a; intro a hA
            refine S.done ?_
            replace hA : St 93 [(1, _), (2, _), (7, _), (8, _), (9, _)] a := hA.sub ((.cons rfl (.cons rfl (.cons rfl (.cons rfl (.cons rfl .nil))))))
            replace hM := hM.front (k := 1) rfl
            replace hM := hM.firstN 1
            replace hM : Mem _ _ [pt b1 #[.int .i64 i.kind, .int .i64 i.n, .int .i64 i.cap, .slice ax3 i.wt.length cx3, .slice ax4 i.vl.length cx4, .slice ax5 i.cost.length cx5] 25] _ := hM
            exact hNext ((k + 1, bv)) _ _ ((by show 64 - (k + 1) < 64 - k; omega)) ⟨hA.sub ((.cons rfl (.cons rfl (.cons rfl (.cons rfl (.cons rfl .nil)))))), hM, (by omega), hbk2⟩
           ·
            have hbk2 := best_leave hxl hbk hbv hc31
            refine Ends.skip (Ends.inBlock (Ends.region ?_))
            refine S.val hA (R.move rfl) rfl ?_; clear hA a; intro a hA
            refine S.val hA (R.addI rfl rfl (r := ((k : Int)) + 1) rfl (by omega)) rfl ?_; clear hA a; intro a hA
            refine S.val hA (R.assign rfl) rfl ?_; clear hA a; intro a hA
            refine S.done ?_
            replace hA : St 93 [(1, _), (2, _), (7, _), (8, _), (9, _)] a := hA.sub ((.cons rfl (.cons rfl (.cons rfl (.cons rfl (.cons rfl .nil))))))
            replace hM := hM.front (k := 1) rfl
            replace hM := hM.firstN 1
            replace hM : Mem _ _ [pt b1 #[.int .i64 i.kind, .int .i64 i.n, .int .i64 i.cap, .slice ax3 i.wt.length cx3, .slice ax4 i.vl.length cx4, .slice ax5 i.cost.length cx5] 25] _ := hM
            exact hNext ((k + 1, r)) _ _ ((by show 64 - (k + 1) < 64 - k; omega)) ⟨hA.sub ((.cons rfl (.cons rfl (.cons rfl (.cons rfl (.cons rfl .nil)))))), hM, (by omega), hbk2⟩
          ·
           refine Ends.region ?_
           refine S.val hA (R.move rfl) rfl ?_; clear hA a; intro a hA
           refine S.val hA (R.geq rfl rfl) rfl ?_; clear hA a; intro a hA
           refine S.val hA (R.move rfl) rfl ?_; clear hA a; intro a hA
           refine hA.split (d := 82) rfl ?_ ?_
           ·
            clear hA; intro hg32 hA
            refine S.valg (dj := 82) hA (by kernel_rfl) rfl (R.move rfl) rfl ?_; clear hA a; intro a hA
            refine S.valg (dj := 82) hA (by kernel_rfl) rfl (R.lss rfl rfl) rfl ?_; clear hA a; intro a hA
            refine S.valg (dj := 82) hA (by kernel_rfl) rfl (R.move rfl) rfl ?_; clear hA a; intro a hA
            refine hA.split (d := 85) rfl ?_ ?_
            ·
             clear hA; intro hg33 hA
             refine S.no (dj := 85) hA (by kernel_rfl) rfl rfl rfl ?_; clear hA a; intro a hA
             refine S.no (dj := 85) hA (by kernel_rfl) rfl rfl rfl ?_; clear hA a; intro a hA
             refine S.no (dj := 85) hA (by kernel_rfl) rfl rfl rfl ?_; clear hA a; intro a hA
             refine S.valg (dj := 82) hA (by kernel_rfl) rfl (R.pickT rfl rfl) rfl ?_; clear hA a; intro a hA
             refine S.val hA (R.pickT rfl rfl) rfl ?_; clear hA a; intro a hA
             refine S.done ?_
             replace hA : St 93 [(1, _), (2, _), (7, _), (8, _), (9, _), (12, _), (90, _)] a := hA.sub ((.cons rfl (.cons rfl (.cons rfl (.cons rfl (.cons rfl (.cons rfl (.cons rfl .nil))))))))
             exact hJ _ _ ⟨hA.sub (.cons rfl (.cons rfl (.cons rfl (.cons rfl (.cons rfl (.cons rfl (.cons (by first | rfl | exact congrArg (fun b => some (Value.bool b)) (by first | exact decide_eq_decide.2 (by omega) | exact or_bool (by omega) | exact and_bool (by omega) | (simp; done) | (simp [hg32, hg33]; done) | (have h80 := hg32; (try simp at h80); have h81 := hg33; (try simp at h81); simp [h80, h81]; done) | exact (decide_eq_false (fun h9 => hg32 h9.1)).symm | exact (decide_eq_false (fun h9 => hg33 h9.1)).symm)) .nil))))))), hM⟩
            ·
             clear hA; intro hg33 hA
             refine S.valg (dj := 85) hA (by kernel_rfl) rfl (R.move rfl) rfl ?_; clear hA a; intro a hA
             refine S.valg (dj := 85) hA (by kernel_rfl) rfl (R.move rfl) rfl ?_; clear hA a; intro a hA
             refine S.valg (dj := 85) hA (by kernel_rfl) rfl (R.lss rfl rfl) rfl ?_; clear hA a; intro a hA
             refine S.valg (dj := 82) hA (by kernel_rfl) rfl (R.pickF rfl rfl) rfl ?_; clear hA a; intro a hA
             refine S.val hA (R.pickT rfl rfl) rfl ?_; clear hA a; intro a hA
             refine S.done ?_
             replace hA : St 93 [(1, _), (2, _), (7, _), (8, _), (9, _), (12, _), (90, _)] a := hA.sub ((.cons rfl (.cons rfl (.cons rfl (.cons rfl (.cons rfl (.cons rfl (.cons rfl .nil))))))))
             exact hJ _ _ ⟨hA.sub (.cons rfl (.cons rfl (.cons rfl (.cons rfl (.cons rfl (.cons rfl (.cons (by first | rfl | exact congrArg (fun b => some (Value.bool b)) (by first | exact decide_eq_decide.2 (by omega) | exact or_bool (by omega) | exact and_bool (by omega) | (simp; done) | (simp [hg32, hg33]; done) | (have h80 := hg32; (try simp at h80); have h81 := hg33; (try simp at h81); simp [h80, h81]; done) | exact (decide_eq_false (fun h9 => hg32 h9.1)).symm | exact (decide_eq_false (fun h9 => hg33 h9.1)).symm)) .nil))))))), hM⟩
           ·
            clear hA; intro hg32 hA
            refine S.no (dj := 82) hA (by kernel_rfl) rfl rfl rfl ?_; clear hA a; intro a hA
            refine S.no (dj := 82) hA (by kernel_rfl) rfl rfl rfl ?_; clear hA a; intro a hA
            refine S.no (dj := 82) hA (by kernel_rfl) rfl rfl rfl ?_; clear hA a; intro a hA
            refine S.noU (dj := 85) hA (by kernel_rfl) rfl rfl ?_; clear hA a; intro a hA
            refine S.noU (dj := 85) hA (by kernel_rfl) rfl rfl ?_; clear hA a; intro a hA
            refine S.noU (dj := 85) hA (by kernel_rfl) rfl rfl ?_; clear hA a; intro a hA
            refine S.no (dj := 82) hA (by kernel_rfl) rfl rfl rfl ?_; clear hA a; intro a hA
            refine S.val hA (R.pickF rfl rfl) rfl ?_; clear hA a; intro a hA
            refine S.done ?_
            replace hA : St 93 [(1, _), (2, _), (7, _), (8, _), (9, _), (12, _), (90, _)] a := hA.sub ((.cons rfl (.cons rfl (.cons rfl (.cons rfl (.cons rfl (.cons rfl (.cons rfl .nil))))))))
            exact hJ _ _ ⟨hA.sub (.cons rfl (.cons rfl (.cons rfl (.cons rfl (.cons rfl (.cons rfl (.cons (by first | rfl | exact congrArg (fun b => some (Value.bool b)) (by first | exact decide_eq_decide.2 (by omega) | exact or_bool (by omega) | exact and_bool (by omega) | (simp; done) | (simp [hg32]; done) | (have h80 := hg32; (try simp at h80); simp [h80]; done) | exact (decide_eq_false (fun h9 => hg32 h9.1)).symm)) .nil))))))), hM⟩
        ·
         refine D.buildSl (cells := #[.int .i64 ((k : Int))]) hA hM rfl Try.underlying22 info3 rfl rfl rfl rfl (by kernel_rfl) rfl ?_; clear hA hM a; intro b34 w19 hb35 hM; refine ⟨hM.tail, fun a hA => ?_⟩
         replace hM : Mem _ _ [pt b34 #[.int .i64 ((k : Int))] 3, pt b1 #[.int .i64 i.kind, .int .i64 i.n, .int .i64 i.cap, .slice ax3 i.wt.length cx3, .slice ax4 i.vl.length cx4, .slice ax5 i.cost.length cx5] 25] _ := hM
         refine D.buildSl0 hA hM rfl Try.underlying22 info3 rfl ?_; clear hA hM a; intro b36 w20 hb37 hM; refine ⟨(fun hM => (hM.drop 0)) hM.tail, fun a hA => ?_⟩
         replace hM := hM.ownPt (cap := 0) (n := 0) (sz := 1) (xs := []) rfl (Nat.zero_le _) (Nat.le_refl _) rfl
         replace hM : Mem _ _ [own 3 1 (.slice ((some ⟨b36, 0, none⟩)) 0 0) 0 ((([] : List Int)).map (Value.int .i64)), pt b34 #[.int .i64 ((k : Int))] 3, pt b1 #[.int .i64 i.kind, .int .i64 i.n, .int .i64 i.cap, .slice ax3 i.wt.length cx3, .slice ax4 i.vl.length cx4, .slice ax5 i.cost.length cx5] 25] _ := hM
         refine D.appendI2 (k := 0) hA hM rfl rfl (hy.mem hM) Try.underlying22 info3 rfl rfl rfl rfl rfl rfl (by first | (unfold maxLen; omega) | (show (_ + _) * 8 ≤ (140737488355328 : Nat); omega) | omega) (by first | (unfold maxLen; omega) | (show (_ + _) * 8 ≤ (140737488355328 : Nat); omega) | omega) rfl ?_; clear hA hM a; intro a38 c39 w21 hM
         have hl40 : 0 + x.length = x.length := by first | (simp; done) | simp only [List.length_append]
         rw [hl40, show (([] : List Int)).map (Value.int .i64) ++ x.map (Value.int .i64) = x.map (Value.int .i64) by simp] at hM
         replace hM : Mem _ _ [own 3 1 (.slice a38 x.length c39) x.length (x.map (Value.int .i64)), pt b34 #[.int .i64 ((k : Int))] 3, pt b1 #[.int .i64 i.kind, .int .i64 i.n, .int .i64 i.cap, .slice ax3 i.wt.length cx3, .slice ax4 i.vl.length cx4, .slice ax5 i.cost.length cx5] 25] _ := hM
         refine ⟨((hM.drop 1).drop 0), fun a hA => ?_⟩; rw [hl40] at hA; clear hl40
         refine D.append (k := 0) (k2 := 1) hA hM rfl rfl rfl Try.underlying22 info3 rfl rfl rfl rfl rfl rfl rfl rfl rfl (by first | (unfold maxLen; omega) | (show (_ + _) * 8 ≤ (140737488355328 : Nat); omega) | omega) (by first | (unfold maxLen; omega) | (show (_ + _) * 8 ≤ (140737488355328 : Nat); omega) | omega) rfl ?_; clear hA hM a; intro a41 c42 w22 hM
         replace hM : Mem _ _ [own 3 1 (.slice a41 (x.length + 1) c42) (x.length + 1) (x.map (Value.int .i64) ++ [.int .i64 ((k : Int))]), pt b34 #[.int .i64 ((k : Int))] 3, pt b1 #[.int .i64 i.kind, .int .i64 i.n, .int .i64 i.cap, .slice ax3 i.wt.length cx3, .slice ax4 i.vl.length cx4, .slice ax5 i.cost.length cx5] 25] _ := hM
         have hl43 : x.length + 1 = (x ++ [(k : Int)]).length := by simp
         rw [hl43, show x.map (Value.int .i64) ++ [.int .i64 ((k : Int))] = (x ++ [(k : Int)]).map (Value.int .i64) by simp] at hM
         replace hM := hM.drop 1
         replace hM : Mem _ _ [own 3 1 (.slice a41 (((x ++ [(k : Int)])).length) c42) (((x ++ [(k : Int)])).length) (((x ++ [(k : Int)])).map (Value.int .i64)), pt b1 #[.int .i64 i.kind, .int .i64 i.n, .int .i64 i.cap, .slice ax3 i.wt.length cx3, .slice ax4 i.vl.length cx4, .slice ax5 i.cost.length cx5] 25] _ := hM
         refine ⟨(hM.drop 0), fun a hA => ?_⟩; rw [hl43] at hA; clear hl43
         refine D.call hA rfl (R.callF Try.func33 rfl rfl rfl) rfl (ih ax3 cx3 ax4 cx4 ax5 cx5 a41 (x ++ [(k : Int)]) c42 _ (hx3.mem hM) (hx4.mem hM) (hx5.mem hM) (hM.rsl (k := 0) rfl) (by rw [List.length_append, List.length_singleton]; omega)) ?_; clear hA a
         rintro e w23 ⟨bv, rfl, hbv, hb⟩
         replace hM := hM.callB hb; clear hb
         have hbv1 := hbv.1
         have hbv2 := hbv.2.1
         refine ⟨.int .i64 bv, rfl, (hM.drop 0), fun a hA => ?_⟩
         refine D.valF hA rfl (fun _ => R.assign rfl) rfl ?_; clear hA a; intro a hA
         refine D.done ?_
         replace hA : St 93 [(1, _), (2, _), (7, _), (8, _), (9, _), (12, _)] a := hA.sub ((.cons rfl (.cons rfl (.cons rfl (.cons rfl (.cons rfl (.cons rfl .nil)))))))
         refine Ends.seq ?_
         refine Ends.cut (fun (a : Act) (wv : World) => St 93 [(1, .slice ay x.length cy), (2, .pointer (some ⟨b1, 0, none⟩)), (7, .int .i64 r), (8, .int .i64 2), (9, .int .i64 ((k : Int))), (12, .int .i64 bv), (90, .bool (decide ((0 ≤ bv ∧ (r < 0 ∨ bv < r)))))] a ∧ Mem w nof [own 3 1 (.slice a41 (((x ++ [(k : Int)])).length) c42) (((x ++ [(k : Int)])).length) (((x ++ [(k : Int)])).map (Value.int .i64)), pt b1 #[.int .i64 i.kind, .int .i64 i.n, .int .i64 i.cap, .slice ax3 i.wt.length cx3, .slice ax4 i.vl.length cx4, .slice ax5 i.cost.length cx5] 25] wv) ?_ (fun k2 hJ => ?_)
         ·
          clear hA hM a; rintro a w24 ⟨hA, hM⟩
          refine Ends.ite hA rfl (fun hc44 => ?_) (fun hc44 => ?_)
          ·
           have hbk2 := best_take hxl hbk hbv hc44
           refine Ends.region ?_
           refine S.val hA (R.move rfl) rfl ?_; clear hA a; intro a hA
           refine S.val hA (R.assign rfl) rfl ?_; clear hA a; intro a hA
           refine S.done ?_
           refine Ends.inBlock (Ends.region ?_)
           refine S.val hA (R.move rfl) rfl ?_; clear hA a; intro a hA
           refine S.val hA (R.addI rfl rfl (r := ((k : Int)) + 1) rfl (by omega)) rfl ?_; clear hA a; intro a hA
           refine S.val hA (R.assign rfl) rfl ?_; clear hA a; intro a hA
           refine S.done ?_
           replace hA : St 93 [(1, _), (2, _), (7, _), (8, _), (9, _)] a := hA.sub ((.cons rfl (.cons rfl (.cons rfl (.cons rfl (.cons rfl .nil))))))
           replace hM := hM.front (k := 1) rfl
           replace hM := hM.firstN 1
           replace hM : Mem _ _ [pt b1 #[.int .i64 i.kind, .int .i64 i.n, .int .i64 i.cap, .slice ax3 i.wt.length cx3, .slice ax4 i.vl.length cx4, .slice ax5 i.cost.length cx5] 25] _ := hM
           exact hNext ((k + 1, bv)) _ _ ((by show 64 - (k + 1) < 64 - k; omega)) ⟨hA.sub ((.cons rfl (.cons rfl (.cons rfl (.cons rfl (.cons rfl .nil)))))), hM, (by omega), hbk2⟩
          ·
           have hbk2 := best_leave hxl hbk hbv hc44
           refine Ends.skip (Ends.inBlock (Ends.region ?_))
           refine S.val hA (R.move rfl) rfl ?_; clear hA a; intro a hA
           refine S.val hA (R.addI rfl rfl (r := ((k : Int)) + 1) rfl (by omega)) rfl ?_; clear hA a; intro a hA
           refine S.val hA (R.assign rfl) rfl ?_; clear hA a; intro a hA
           refine S.done ?_
           replace hA : St 93 [(1, _), (2, _), (7, _), (8, _), (9, _)] a := hA.sub ((.cons rfl (.cons rfl (.cons rfl (.cons rfl (.cons rfl .nil))))))
           replace hM := hM.front (k := 1) rfl
           replace hM := hM.firstN 1
           replace hM : Mem _ _ [pt b1 #[.int .i64 i.kind, .int .i64 i.n, .int .i64 i.cap, .slice ax3 i.wt.length cx3, .slice ax4 i.vl.length cx4, .slice ax5 i.cost.length cx5] 25] _ := hM
           exact hNext ((k + 1, r)) _ _ ((by show 64 - (k + 1) < 64 - k; omega)) ⟨hA.sub ((.cons rfl (.cons rfl (.cons rfl (.cons rfl (.cons rfl .nil)))))), hM, (by omega), hbk2⟩
         ·
          refine Ends.region ?_
          refine S.val hA (R.move rfl) rfl ?_; clear hA a; intro a hA
          refine S.val hA (R.geq rfl rfl) rfl ?_; clear hA a; intro a hA
          refine S.val hA (R.move rfl) rfl ?_; clear hA a; intro a hA
          refine hA.split (d := 82) rfl ?_ ?_
          ·
           clear hA; intro hg45 hA
           refine S.valg (dj := 82) hA (by kernel_rfl) rfl (R.move rfl) rfl ?_; clear hA a; intro a hA
           refine S.valg (dj := 82) hA (by kernel_rfl) rfl (R.lss rfl rfl) rfl ?_; clear hA a; intro a hA
           refine S.valg (dj := 82) hA (by kernel_rfl) rfl (R.move rfl) rfl ?_; clear hA a; intro a hA
           refine hA.split (d := 85) rfl ?_ ?_
           ·
            clear hA; intro hg46 hA
            refine S.no (dj := 85) hA (by kernel_rfl) rfl rfl rfl ?_; clear hA a; intro a hA
            refine S.no (dj := 85) hA (by kernel_rfl) rfl rfl rfl ?_; clear hA a; intro a hA
            refine S.no (dj := 85) hA (by kernel_rfl) rfl rfl rfl ?_; clear hA a; intro a hA
            refine S.valg (dj := 82) hA (by kernel_rfl) rfl (R.pickT rfl rfl) rfl ?_; clear hA a; intro a hA
            refine S.val hA (R.pickT rfl rfl) rfl ?_; clear hA a; intro a hA
            refine S.done ?_
            replace hA : St 93 [(1, _), (2, _), (7, _), (8, _), (9, _), (12, _), (90, _)] a := hA.sub ((.cons rfl (.cons rfl (.cons rfl (.cons rfl (.cons rfl (.cons rfl (.cons rfl .nil))))))))
            exact hJ _ _ ⟨hA.sub (.cons rfl (.cons rfl (.cons rfl (.cons rfl (.cons rfl (.cons rfl (.cons (by first | rfl | exact congrArg (fun b => some (Value.bool b)) (by first | exact decide_eq_decide.2 (by omega) | exact or_bool (by omega) | exact and_bool (by omega) | (simp; done) | (simp [hg45, hg46]; done) | (have h80 := hg45; (try simp at h80); have h81 := hg46; (try simp at h81); simp [h80, h81]; done) | exact (decide_eq_false (fun h9 => hg45 h9.1)).symm | exact (decide_eq_false (fun h9 => hg46 h9.1)).symm)) .nil))))))), hM⟩
           ·
            clear hA; intro hg46 hA
            refine S.valg (dj := 85) hA (by kernel_rfl) rfl (R.move rfl) rfl ?_; clear hA a; intro a hA
            refine S.valg (dj := 85) hA (by kernel_rfl) rfl (R.move rfl) rfl ?_; clear hA a; intro a hA
            refine S.valg (dj := 85) hA (by kernel_rfl) rfl (R.lss rfl rfl) rfl ?_; clear hA a; intro a hA
            refine S.valg (dj := 82) hA (by kernel_rfl) rfl (R.pickF rfl rfl) rfl ?_; clear hA a; intro a hA
            refine S.val hA (R.pickT rfl rfl) rfl ?_; clear hA a; intro a hA
            refine S.done ?_
            replace hA : St 93 [(1, _), (2, _), (7, _), (8, _), (9, _), (12, _), (90, _)] a := hA.sub ((.cons rfl (.cons rfl (.cons rfl (.cons rfl (.cons rfl (.cons rfl (.cons rfl .nil))))))))
            exact hJ _ _ ⟨hA.sub (.cons rfl (.cons rfl (.cons rfl (.cons rfl (.cons rfl (.cons rfl (.cons (by first | rfl | exact congrArg (fun b => some (Value.bool b)) (by first | exact decide_eq_decide.2 (by omega) | exact or_bool (by omega) | exact and_bool (by omega) | (simp; done) | (simp [hg45, hg46]; done) | (have h80 := hg45; (try simp at h80); have h81 := hg46; (try simp at h81); simp [h80, h81]; done) | exact (decide_eq_false (fun h9 => hg45 h9.1)).symm | exact (decide_eq_false (fun h9 => hg46 h9.1)).symm)) .nil))))))), hM⟩
          ·
           clear hA; intro hg45 hA
           refine S.no (dj := 82) hA (by kernel_rfl) rfl rfl rfl ?_; clear hA a; intro a hA
           refine S.no (dj := 82) hA (by kernel_rfl) rfl rfl rfl ?_; clear hA a; intro a hA
           refine S.no (dj := 82) hA (by kernel_rfl) rfl rfl rfl ?_; clear hA a; intro a hA
           refine S.noU (dj := 85) hA (by kernel_rfl) rfl rfl ?_; clear hA a; intro a hA
           refine S.noU (dj := 85) hA (by kernel_rfl) rfl rfl ?_; clear hA a; intro a hA
           refine S.noU (dj := 85) hA (by kernel_rfl) rfl rfl ?_; clear hA a; intro a hA
           refine S.no (dj := 82) hA (by kernel_rfl) rfl rfl rfl ?_; clear hA a; intro a hA
           refine S.val hA (R.pickF rfl rfl) rfl ?_; clear hA a; intro a hA
           refine S.done ?_
           replace hA : St 93 [(1, _), (2, _), (7, _), (8, _), (9, _), (12, _), (90, _)] a := hA.sub ((.cons rfl (.cons rfl (.cons rfl (.cons rfl (.cons rfl (.cons rfl (.cons rfl .nil))))))))
           exact hJ _ _ ⟨hA.sub (.cons rfl (.cons rfl (.cons rfl (.cons rfl (.cons rfl (.cons rfl (.cons (by first | rfl | exact congrArg (fun b => some (Value.bool b)) (by first | exact decide_eq_decide.2 (by omega) | exact or_bool (by omega) | exact and_bool (by omega) | (simp; done) | (simp [hg45]; done) | (have h80 := hg45; (try simp at h80); simp [h80]; done) | exact (decide_eq_false (fun h9 => hg45 h9.1)).symm)) .nil))))))), hM⟩
      ·
       refine Ends.region ?_
       refine S.val hA (R.move rfl) rfl ?_; clear hA a; intro a hA
       refine S.val hA (R.move rfl) rfl ?_; clear hA a; intro a hA
       refine hA.split (d := 58) rfl ?_ ?_
       ·
        clear hA; intro hg47 hA
        refine S.no (dj := 58) hA (by kernel_rfl) rfl rfl rfl ?_; clear hA a; intro a hA
        refine S.no (dj := 58) hA (by kernel_rfl) rfl rfl rfl ?_; clear hA a; intro a hA
        refine S.no (dj := 58) hA (by kernel_rfl) rfl rfl rfl ?_; clear hA a; intro a hA
        refine S.no (dj := 58) hA (by kernel_rfl) rfl rfl rfl ?_; clear hA a; intro a hA
        refine S.noU (dj := 62) hA (by kernel_rfl) rfl rfl ?_; clear hA a; intro a hA
        refine S.noU (dj := 62) hA (by kernel_rfl) rfl rfl ?_; clear hA a; intro a hA
        refine S.noU (dj := 62) hA (by kernel_rfl) rfl rfl ?_; clear hA a; intro a hA
        refine S.no (dj := 58) hA (by kernel_rfl) rfl rfl rfl ?_; clear hA a; intro a hA
        refine S.no (dj := 58) hA (by kernel_rfl) rfl rfl rfl ?_; clear hA a; intro a hA
        refine S.noU (dj := 67) hA (by kernel_rfl) rfl rfl ?_; clear hA a; intro a hA
        refine S.noU (dj := 67) hA (by kernel_rfl) rfl rfl ?_; clear hA a; intro a hA
        refine S.no (dj := 58) hA (by kernel_rfl) rfl rfl rfl ?_; clear hA a; intro a hA
        refine S.val hA (R.pickT rfl rfl) rfl ?_; clear hA a; intro a hA
        refine S.done ?_
        replace hA : St 93 [(1, _), (2, _), (7, _), (8, _), (9, _), (71, _)] a := hA.sub ((.cons rfl (.cons rfl (.cons rfl (.cons rfl (.cons rfl (.cons rfl .nil)))))))
        exact hJ _ _ ⟨hA.sub (.cons rfl (.cons rfl (.cons rfl (.cons rfl (.cons rfl (.cons (by first | rfl | exact congrArg (fun b => some (Value.bool b)) (by first | exact decide_eq_decide.2 (by omega) | exact or_bool (by omega) | exact and_bool (by omega) | (simp; done) | (simp [hg47]; done) | (have h80 := hg47; (try simp at h80); simp [h80]; done) | exact (decide_eq_false (fun h9 => hg47 h9.1)).symm)) .nil)))))), hM⟩
       ·
        clear hA; intro hg47 hA
        refine S.valg (dj := 58) hA (by kernel_rfl) rfl (R.fieldAddr (q := 0) fi25_0 rfl rfl rfl) rfl ?_; clear hA a; intro a hA
        refine S.valg (dj := 58) hA (by kernel_rfl) rfl (R.load sz3 rfl (hM.cell (k := 0) rfl rfl)) rfl ?_; clear hA a; intro a hA
        refine S.valg (dj := 58) hA (by kernel_rfl) rfl (R.eql rfl rfl) rfl ?_; clear hA a; intro a hA
        refine S.valg (dj := 58) hA (by kernel_rfl) rfl (R.move rfl) rfl ?_; clear hA a; intro a hA
        refine hA.split (d := 62) rfl ?_ ?_
        ·
         clear hA; intro hg48 hA
         refine S.valg (dj := 62) hA (by kernel_rfl) rfl (R.move rfl) rfl ?_; clear hA a; intro a hA
         refine S.valg (dj := 62) hA (by kernel_rfl) rfl (R.lenS Try.underlying22 rfl rfl) rfl ?_; clear hA a; intro a hA
         refine S.valg (dj := 62) hA (by kernel_rfl) rfl (R.eql rfl rfl) rfl ?_; clear hA a; intro a hA
         refine S.valg (dj := 58) hA (by kernel_rfl) rfl (R.pickT rfl rfl) rfl ?_; clear hA a; intro a hA
         refine S.valg (dj := 58) hA (by kernel_rfl) rfl (R.move rfl) rfl ?_; clear hA a; intro a hA
         refine hA.split (d := 67) rfl ?_ ?_
         ·
          clear hA; intro hg49 hA
          refine S.valg (dj := 67) hA (by kernel_rfl) rfl (R.move rfl) rfl ?_; clear hA a; intro a hA
          refine S.valg (dj := 67) hA (by kernel_rfl) rfl (R.neq rfl rfl) rfl ?_; clear hA a; intro a hA
          refine S.valg (dj := 58) hA (by kernel_rfl) rfl (R.pickT rfl rfl) rfl ?_; clear hA a; intro a hA
          refine S.val hA (R.pickF rfl rfl) rfl ?_; clear hA a; intro a hA
          refine S.done ?_
          replace hA : St 93 [(1, _), (2, _), (7, _), (8, _), (9, _), (71, _)] a := hA.sub ((.cons rfl (.cons rfl (.cons rfl (.cons rfl (.cons rfl (.cons rfl .nil)))))))
          exact hJ _ _ ⟨hA.sub (.cons rfl (.cons rfl (.cons rfl (.cons rfl (.cons rfl (.cons (by first | rfl | exact congrArg (fun b => some (Value.bool b)) (by first | exact decide_eq_decide.2 (by omega) | exact or_bool (by omega) | exact and_bool (by omega) | (simp; done) | (simp [hg47, hg48, hg49]; done) | (have h80 := hg47; (try simp at h80); have h81 := hg48; (try simp at h81); have h82 := hg49; (try simp at h82); simp [h80, h81, h82]; done) | exact (decide_eq_false (fun h9 => hg47 h9.1)).symm | exact (decide_eq_false (fun h9 => hg48 h9.1)).symm | exact (decide_eq_false (fun h9 => hg49 h9.1)).symm)) .nil)))))), hM⟩
         ·
          clear hA; intro hg49 hA
          refine S.no (dj := 67) hA (by kernel_rfl) rfl rfl rfl ?_; clear hA a; intro a hA
          refine S.no (dj := 67) hA (by kernel_rfl) rfl rfl rfl ?_; clear hA a; intro a hA
          refine S.valg (dj := 58) hA (by kernel_rfl) rfl (R.pickF rfl rfl) rfl ?_; clear hA a; intro a hA
          refine S.val hA (R.pickF rfl rfl) rfl ?_; clear hA a; intro a hA
          refine S.done ?_
          replace hA : St 93 [(1, _), (2, _), (7, _), (8, _), (9, _), (71, _)] a := hA.sub ((.cons rfl (.cons rfl (.cons rfl (.cons rfl (.cons rfl (.cons rfl .nil)))))))
          exact hJ _ _ ⟨hA.sub (.cons rfl (.cons rfl (.cons rfl (.cons rfl (.cons rfl (.cons (by first | rfl | exact congrArg (fun b => some (Value.bool b)) (by first | exact decide_eq_decide.2 (by omega) | exact or_bool (by omega) | exact and_bool (by omega) | (simp; done) | (simp [hg47, hg48, hg49]; done) | (have h80 := hg47; (try simp at h80); have h81 := hg48; (try simp at h81); have h82 := hg49; (try simp at h82); simp [h80, h81, h82]; done) | exact (decide_eq_false (fun h9 => hg47 h9.1)).symm | exact (decide_eq_false (fun h9 => hg48 h9.1)).symm | exact (decide_eq_false (fun h9 => hg49 h9.1)).symm)) .nil)))))), hM⟩
        ·
         clear hA; intro hg48 hA
         refine S.no (dj := 62) hA (by kernel_rfl) rfl rfl rfl ?_; clear hA a; intro a hA
         refine S.no (dj := 62) hA (by kernel_rfl) rfl rfl rfl ?_; clear hA a; intro a hA
         refine S.no (dj := 62) hA (by kernel_rfl) rfl rfl rfl ?_; clear hA a; intro a hA
         refine S.valg (dj := 58) hA (by kernel_rfl) rfl (R.pickF rfl rfl) rfl ?_; clear hA a; intro a hA
         refine S.valg (dj := 58) hA (by kernel_rfl) rfl (R.move rfl) rfl ?_; clear hA a; intro a hA
         refine S.no (dj := 67) hA (by kernel_rfl) rfl rfl rfl ?_; clear hA a; intro a hA
         refine S.no (dj := 67) hA (by kernel_rfl) rfl rfl rfl ?_; clear hA a; intro a hA
         refine S.valg (dj := 58) hA (by kernel_rfl) rfl (R.pickF rfl rfl) rfl ?_; clear hA a; intro a hA
         refine S.val hA (R.pickF rfl rfl) rfl ?_; clear hA a; intro a hA
         refine S.done ?_
         replace hA : St 93 [(1, _), (2, _), (7, _), (8, _), (9, _), (71, _)] a := hA.sub ((.cons rfl (.cons rfl (.cons rfl (.cons rfl (.cons rfl (.cons rfl .nil)))))))
         exact hJ _ _ ⟨hA.sub (.cons rfl (.cons rfl (.cons rfl (.cons rfl (.cons rfl (.cons (by first | rfl | exact congrArg (fun b => some (Value.bool b)) (by first | exact decide_eq_decide.2 (by omega) | exact or_bool (by omega) | exact and_bool (by omega) | (simp; done) | (simp [hg47, hg48]; done) | (have h80 := hg47; (try simp at h80); have h81 := hg48; (try simp at h81); simp [h80, h81]; done) | exact (decide_eq_false (fun h9 => hg47 h9.1)).symm | exact (decide_eq_false (fun h9 => hg48 h9.1)).symm)) .nil)))))), hM⟩
    ·
     refine Ends.region ?_
     refine S.val hA (R.move rfl) rfl ?_; clear hA a; intro a hA
     refine S.val hA (R.move rfl) rfl ?_; clear hA a; intro a hA
     refine S.val hA (R.lenS Try.underlying22 rfl rfl) rfl ?_; clear hA a; intro a hA
     refine S.val hA (R.lss rfl rfl) rfl ?_; clear hA a; intro a hA
     refine S.val hA (R.move rfl) rfl ?_; clear hA a; intro a hA
     refine hA.split (d := 41) rfl ?_ ?_
     ·
      clear hA; intro hg50 hA
      refine S.valg (dj := 41) hA (by kernel_rfl) rfl (R.fieldAddr (q := 0) fi25_0 rfl rfl rfl) rfl ?_; clear hA a; intro a hA
      refine S.valg (dj := 41) hA (by kernel_rfl) rfl (R.load sz3 rfl (hM.cell (k := 0) rfl rfl)) rfl ?_; clear hA a; intro a hA
      refine S.valg (dj := 41) hA (by kernel_rfl) rfl (R.neq rfl rfl) rfl ?_; clear hA a; intro a hA
      refine S.val hA (R.pickT rfl rfl) rfl ?_; clear hA a; intro a hA
      refine S.done ?_
      replace hA : St 93 [(1, _), (2, _), (7, _), (8, _), (9, _), (10, _), (11, _), (45, _)] a := hA.sub ((.cons rfl (.cons rfl (.cons rfl (.cons rfl (.cons rfl (.cons rfl (.cons rfl (.cons rfl .nil)))))))))
      exact hJ _ _ ⟨hA.sub (.cons rfl (.cons rfl (.cons rfl (.cons rfl (.cons rfl (.cons rfl (.cons rfl (.cons (by first | rfl | exact congrArg (fun b => some (Value.bool b)) (by first | exact decide_eq_decide.2 (by omega) | exact or_bool (by omega) | exact and_bool (by omega) | (simp; done) | (simp [hg50]; done) | (have h80 := hg50; (try simp at h80); simp [h80]; done) | exact (decide_eq_false (fun h9 => hg50 h9.1)).symm)) .nil)))))))), hM⟩
     ·
      clear hA; intro hg50 hA
      refine S.no (dj := 41) hA (by kernel_rfl) rfl rfl rfl ?_; clear hA a; intro a hA
      refine S.no (dj := 41) hA (by kernel_rfl) rfl rfl rfl ?_; clear hA a; intro a hA
      refine S.no (dj := 41) hA (by kernel_rfl) rfl rfl rfl ?_; clear hA a; intro a hA
      refine S.val hA (R.pickF rfl rfl) rfl ?_; clear hA a; intro a hA
      refine S.done ?_
      replace hA : St 93 [(1, _), (2, _), (7, _), (8, _), (9, _), (10, _), (11, _), (45, _)] a := hA.sub ((.cons rfl (.cons rfl (.cons rfl (.cons rfl (.cons rfl (.cons rfl (.cons rfl (.cons rfl .nil)))))))))
      exact hJ _ _ ⟨hA.sub (.cons rfl (.cons rfl (.cons rfl (.cons rfl (.cons rfl (.cons rfl (.cons rfl (.cons (by first | rfl | exact congrArg (fun b => some (Value.bool b)) (by first | exact decide_eq_decide.2 (by omega) | exact or_bool (by omega) | exact and_bool (by omega) | (simp; done) | (simp [hg50]; done) | (have h80 := hg50; (try simp at h80); simp [h80]; done) | exact (decide_eq_false (fun h9 => hg50 h9.1)).symm)) .nil)))))))), hM⟩
   ·
    refine Ends.exit rfl ?_
    replace hA : St 93 [(7, _)] a := hA.sub ((.cons rfl .nil))
    refine Ends.seq (Ends.region ?_)
    refine S.val hA (R.move rfl) rfl ?_; clear hA a; intro a hA
    refine S.val hA (R.assign rfl) rfl ?_; clear hA a; intro a hA
    refine S.done ?_
    refine Ends.ret1 Try.func33 Try.results33 hA rfl ?_
    exact ⟨_, rfl, best_end hF hxl hbk (by rw [hmo]; exact hc6), Mem.trans0 hbs hM.nilL⟩
  ·
   have hkn := hc5
   have hmo : (if i.kind = 1 then 2 else i.n) = i.n := if_neg hkn
   have f4 := hF.n24 hkn
   refine Ends.skip (Ends.seq (Ends.seq (Ends.region ?_)))
   refine S.val hA (R.assign rfl) rfl ?_; clear hA a; intro a hA
   refine S.done ?_
   refine Ends.block ?_
   refine Ends.loop (σ := Nat × Int) (fun (k, r) (a : Act) (wv : World) => St 93 [(1, .slice ay x.length cy), (2, .pointer (some ⟨b1, 0, none⟩)), (7, .int .i64 r), (8, .int .i64 i.n), (9, .int .i64 ((k : Int)))] a ∧ Mem w nof [pt b1 #[.int .i64 i.kind, .int .i64 i.n, .int .i64 i.cap, .slice ax3 i.wt.length cx3, .slice ax4 i.vl.length cx4, .slice ax5 i.cost.length cx5] 25] wv ∧ ((k : Int) ≤ (if i.kind = 1 then 2 else i.n)) ∧ (bestK i x k r)) (fun (k, r) => 64 - k) ((0, -1)) ⟨hA.sub ((.cons rfl (.cons rfl (.cons rfl (.cons rfl (.cons rfl .nil)))))), hM, (by rw [hmo]; omega), hx0⟩ ?_
   clear hA hM a
   rintro ⟨k, r⟩ a w25 ⟨hA, hM, hk, hbk⟩ hNext
   refine Ends.seq (Ends.seq (Ends.region ?_))
   refine S.val hA (R.move rfl) rfl ?_; clear hA a; intro a hA
   refine S.val hA (R.move rfl) rfl ?_; clear hA a; intro a hA
   refine S.val hA (R.lss rfl rfl) rfl ?_; clear hA a; intro a hA
   refine S.done ?_
   refine Ends.ite hA rfl (fun hc51 => ?_) (fun hc51 => ?_)
   ·
    refine Ends.skip (Ends.seq (Ends.block (Ends.seq (Ends.region ?_))))
    refine S.val hA (R.assign rfl) rfl ?_; clear hA a; intro a hA
    refine S.done ?_
    refine Ends.seq (Ends.seq (Ends.region ?_))
    refine S.val hA (R.assign rfl) rfl ?_; clear hA a; intro a hA
    refine S.done ?_
    refine Ends.block ?_
    rw [show (Value.bool false) = .bool (decide ((k : Int) ∈ x.take 0)) by simp] at hA
    refine Ends.loop (σ := Nat) (fun z (a : Act) (wv : World) => St 93 [(1, .slice ay x.length cy), (2, .pointer (some ⟨b1, 0, none⟩)), (7, .int .i64 r), (8, .int .i64 i.n), (9, .int .i64 ((k : Int))), (10, .bool (decide ((k : Int) ∈ x.take z))), (11, .int .i64 ((z : Int)))] a ∧ Mem w nof [pt b1 #[.int .i64 i.kind, .int .i64 i.n, .int .i64 i.cap, .slice ax3 i.wt.length cx3, .slice ax4 i.vl.length cx4, .slice ax5 i.cost.length cx5] 25] wv ∧ (z ≤ x.length) ∧ (i.kind = 1 → z = 0)) (fun z => x.length - z) 0 ⟨hA.sub ((.cons rfl (.cons rfl (.cons rfl (.cons rfl (.cons rfl (.cons rfl (.cons rfl .nil)))))))), hM, (Nat.zero_le _), (fun _ => rfl)⟩ ?_
    clear hA hM a
    rintro z a w26 ⟨hA, hM, hz, hz1⟩ hNext1
    refine Ends.seq (Ends.seq ?_)
    refine Ends.cut (fun (a : Act) (wv : World) => St 93 [(1, .slice ay x.length cy), (2, .pointer (some ⟨b1, 0, none⟩)), (7, .int .i64 r), (8, .int .i64 i.n), (9, .int .i64 ((k : Int))), (10, .bool (decide ((k : Int) ∈ x.take z))), (11, .int .i64 ((z : Int))), (45, .bool (decide ((((z : Int)) < ((x.length : Int)) ∧ i.kind ≠ 1))))] a ∧ Mem w nof [pt b1 #[.int .i64 i.kind, .int .i64 i.n, .int .i64 i.cap, .slice ax3 i.wt.length cx3, .slice ax4 i.vl.length cx4, .slice ax5 i.cost.length cx5] 25] wv) ?_ (fun k2 hJ => ?_)
    ·
     clear hA hM a; rintro a w27 ⟨hA, hM⟩
     refine Ends.ite hA rfl (fun hc52 => ?_) (fun hc52 => ?_)
     ·
      refine Ends.skip (Ends.seq (Ends.block ?_))
      refine Ends.cut (fun (a : Act) (wv : World) => St 93 [(1, .slice ay x.length cy), (2, .pointer (some ⟨b1, 0, none⟩)), (7, .int .i64 r), (8, .int .i64 i.n), (9, .int .i64 ((k : Int))), (10, .bool (decide (((k : Int) ∈ x.take z ∨ (x.getD z 0) = ((k : Int)))))), (11, .int .i64 ((z : Int)))] a ∧ Mem w nof [pt b1 #[.int .i64 i.kind, .int .i64 i.n, .int .i64 i.cap, .slice ax3 i.wt.length cx3, .slice ax4 i.vl.length cx4, .slice ax5 i.cost.length cx5] 25] wv) ?_ (fun k2 hJ => ?_)
      ·
       clear hA hM a; rintro a w28 ⟨hA, hM⟩
       refine Ends.inBlock (Ends.region ?_)
       refine S.val hA (R.move rfl) rfl ?_; clear hA a; intro a hA
       refine S.val hA (R.addI rfl rfl (r := ((z : Int)) + 1) rfl (by omega)) rfl ?_; clear hA a; intro a hA
       refine S.val hA (R.assign rfl) rfl ?_; clear hA a; intro a hA
       refine S.done ?_
       rw [show decide (((k : Int) ∈ x.take z ∨ (x.getD z 0) = ((k : Int)))) = decide ((k : Int) ∈ x.take (z + 1)) from decide_eq_decide.2 (by rw [take_succ_getD x z (by omega), List.mem_append, List.mem_singleton]; exact ⟨fun h => h.elim .inl fun g => .inr g.symm, fun h => h.elim .inl fun g => .inr g.symm⟩)] at hA
       exact hNext1 ((z + 1)) _ _ ((by show x.length - (z + 1) < x.length - z; omega)) ⟨hA.sub ((.cons rfl (.cons rfl (.cons rfl (.cons rfl (.cons rfl (.cons rfl (.cons rfl .nil)))))))), hM, (by omega), (fun e9 => by omega)⟩
      ·
       refine Ends.region ?_
       refine S.val hA (R.move rfl) rfl ?_; clear hA a; intro a hA
       refine S.val hA (R.move rfl) rfl ?_; clear hA a; intro a hA
       refine hA.split (d := 49) rfl ?_ ?_
       ·
        clear hA; intro hg53 hA
        refine S.no (dj := 49) hA (by kernel_rfl) rfl rfl rfl ?_; clear hA a; intro a hA
        refine S.no (dj := 49) hA (by kernel_rfl) rfl rfl rfl ?_; clear hA a; intro a hA
        refine S.no (dj := 49) hA (by kernel_rfl) rfl rfl rfl ?_; clear hA a; intro a hA
        refine S.no (dj := 49) hA (by kernel_rfl) rfl rfl rfl ?_; clear hA a; intro a hA
        refine S.no (dj := 49) hA (by kernel_rfl) rfl rfl rfl ?_; clear hA a; intro a hA
        refine S.no (dj := 49) hA (by kernel_rfl) rfl rfl rfl ?_; clear hA a; intro a hA
        refine S.val hA (R.pickT rfl rfl) rfl ?_; clear hA a; intro a hA
        refine S.val hA (R.assign rfl) rfl ?_; clear hA a; intro a hA
        refine S.done ?_
        replace hA : St 93 [(1, _), (2, _), (7, _), (8, _), (9, _), (10, _), (11, _)] a := hA.sub ((.cons rfl (.cons rfl (.cons rfl (.cons rfl (.cons rfl (.cons rfl (.cons rfl .nil))))))))
        exact hJ _ _ ⟨hA.sub (.cons rfl (.cons rfl (.cons rfl (.cons rfl (.cons rfl (.cons (by first | rfl | exact congrArg (fun b => some (Value.bool b)) (by first | exact decide_eq_decide.2 (by omega) | exact or_bool (by omega) | exact and_bool (by omega) | (simp; done) | (simp [hg53]; done) | (have h80 := hg53; (try simp at h80); simp [h80]; done) | exact (decide_eq_false (fun h9 => hg53 h9.1)).symm)) (.cons rfl .nil))))))), hM⟩
       ·
        clear hA; intro hg53 hA
        refine S.valg (dj := 49) hA (by kernel_rfl) rfl (R.move rfl) rfl ?_; clear hA a; intro a hA
        refine S.valg (dj := 49) hA (by kernel_rfl) rfl (R.move rfl) rfl ?_; clear hA a; intro a hA
        refine S.valg (dj := 49) hA (by kernel_rfl) rfl (R.idxI hy (j := z) sl22 rfl rfl (by omega) (rfl)) rfl ?_; clear hA a; intro a hA
        refine S.valg (dj := 49) hA (by kernel_rfl) rfl (R.loadI (hy.mem hM) sz3 rfl (by omega)) rfl ?_; clear hA a; intro a hA
        refine S.valg (dj := 49) hA (by kernel_rfl) rfl (R.move rfl) rfl ?_; clear hA a; intro a hA
        refine S.valg (dj := 49) hA (by kernel_rfl) rfl (R.eql rfl rfl) rfl ?_; clear hA a; intro a hA
        refine S.val hA (R.pickF rfl rfl) rfl ?_; clear hA a; intro a hA
        refine S.val hA (R.assign rfl) rfl ?_; clear hA a; intro a hA
        refine S.done ?_
        replace hA : St 93 [(1, _), (2, _), (7, _), (8, _), (9, _), (10, _), (11, _)] a := hA.sub ((.cons rfl (.cons rfl (.cons rfl (.cons rfl (.cons rfl (.cons rfl (.cons rfl .nil))))))))
        exact hJ _ _ ⟨hA.sub (.cons rfl (.cons rfl (.cons rfl (.cons rfl (.cons rfl (.cons (by first | rfl | exact congrArg (fun b => some (Value.bool b)) (by first | exact decide_eq_decide.2 (by omega) | exact or_bool (by omega) | exact and_bool (by omega) | (simp; done) | (simp [hg53]; done) | (have h80 := hg53; (try simp at h80); simp [h80]; done) | exact (decide_eq_false (fun h9 => hg53 h9.1)).symm)) (.cons rfl .nil))))))), hM⟩
     ·
      have hzd : i.kind = 1 ∨ z = x.length := by by_cases e9 : i.kind = 1; exact .inl e9; exact .inr (by have h9 := hc52; omega)
      have hus : (k : Int) ∈ x.take z ↔ (¬ i.kind = 1 ∧ (k : Int) ∈ x) := by
       rcases hzd with e9 | e9
       · rw [hz1 e9]; simp [e9]
       ·
        by_cases e8 : i.kind = 1
        · rw [hz1 e8]; simp [e8]
        · rw [e9, List.take_length]; simp [e8]
      refine Ends.exit rfl ?_
      refine Ends.seq (Ends.seq ?_)
      refine Ends.cut (fun (a : Act) (wv : World) => St 93 [(1, .slice ay x.length cy), (2, .pointer (some ⟨b1, 0, none⟩)), (7, .int .i64 r), (8, .int .i64 i.n), (9, .int .i64 ((k : Int))), (71, .bool (decide (((k : Int) ∈ x.take z ∨ ((i.kind = 3 ∧ ((x.length : Int)) = 0) ∧ ((k : Int)) ≠ 0)))))] a ∧ Mem w nof [pt b1 #[.int .i64 i.kind, .int .i64 i.n, .int .i64 i.cap, .slice ax3 i.wt.length cx3, .slice ax4 i.vl.length cx4, .slice ax5 i.cost.length cx5] 25] wv) ?_ (fun k2 hJ => ?_)
      ·
       clear hA hM a; rintro a w29 ⟨hA, hM⟩
       refine Ends.ite hA rfl (fun hc54 => ?_) (fun hc54 => ?_)
       ·
        have hsk := hc54
        have hbk2 := best_skip hF hxl hbk (by
         rcases hsk with g | ⟨⟨g1, g2⟩, g3⟩
         · exact .inl (hus.1 g)
         · exact .inr ⟨g1, List.length_eq_zero_iff.1 (by omega), fun e9 => g3 (by omega)⟩)
        refine Ends.exit rfl ?_
        refine Ends.region ?_
        refine S.val hA (R.move rfl) rfl ?_; clear hA a; intro a hA
        refine S.val hA (R.addI rfl rfl (r := ((k : Int)) + 1) rfl (by omega)) rfl ?_; clear hA a; intro a hA
        refine S.val hA (R.assign rfl) rfl ?_; clear hA a; intro a hA
        refine S.done ?_
        replace hM := hM.firstN 1
        replace hM : Mem _ _ [pt b1 #[.int .i64 i.kind, .int .i64 i.n, .int .i64 i.cap, .slice ax3 i.wt.length cx3, .slice ax4 i.vl.length cx4, .slice ax5 i.cost.length cx5] 25] _ := hM
        exact hNext ((k + 1, r)) _ _ ((by show 64 - (k + 1) < 64 - k; omega)) ⟨hA.sub ((.cons rfl (.cons rfl (.cons rfl (.cons rfl (.cons rfl .nil)))))), hM, (by omega), hbk2⟩
       ·
        have hsk := hc54
        refine Ends.skip (Ends.seq ?_)
        refine Ends.drawn (Mem w nof [pt b1 #[.int .i64 i.kind, .int .i64 i.n, .int .i64 i.cap, .slice ax3 i.wt.length cx3, .slice ax4 i.vl.length cx4, .slice ax5 i.cost.length cx5] 25]) (.cons (0, true) (.cons (2, true) (.cons (4, true) (.fork 1 5 (.fork 3 5 (.cons (5, false) (.cons (6, false) (.cons (7, false) (.cons (8, true) .nil)))) (.cons (3, false) (.cons (6, false) (.cons (7, false) (.cons (8, true) .nil))))) (.cons (1, false) (.cons (3, false) (.cons (6, false) (.cons (7, false) (.cons (8, true) .nil))))))))) 9 mixed (by kernel_rfl) (by kernel_rfl) (by kernel_rfl) hM.drew ?_
        replace hM := hM.drew
        refine D.val hA rfl (by kernel_rfl) (fun _ hM => R.loadA sz25 rfl (hM.range (k := 0) rfl) rfl) rfl ?_; clear hA a; intro a hA
        refine D.valF hA rfl (fun _ => R.move rfl) rfl ?_; clear hA a; intro a hA
        refine D.valF hA rfl (fun _ => R.move rfl) rfl ?_; clear hA a; intro a hA
        refine D.fork rfl rfl ?_ ?_
        ·
         refine D.buildSl0 hA hM rfl Try.underlying22 info3 rfl ?_; clear hA hM a; intro b55 w30 hb56 hM; refine ⟨(fun hM => hM) hM.tail, fun a hA => ?_⟩
         replace hM := hM.ownPt (cap := 0) (n := 0) (sz := 1) (xs := []) rfl (Nat.zero_le _) (Nat.le_refl _) rfl
         replace hM : Mem _ _ [own 3 1 (.slice ((some ⟨b55, 0, none⟩)) 0 0) 0 ((([] : List Int)).map (Value.int .i64)), pt b1 #[.int .i64 i.kind, .int .i64 i.n, .int .i64 i.cap, .slice ax3 i.wt.length cx3, .slice ax4 i.vl.length cx4, .slice ax5 i.cost.length cx5] 25] _ := hM
         refine D.fork rfl rfl ?_ ?_
         ·
          refine D.appendI2 (k := 0) hA hM rfl rfl (hy.mem hM) Try.underlying22 info3 rfl rfl rfl rfl rfl rfl (by first | (unfold maxLen; omega) | (show (_ + _) * 8 ≤ (140737488355328 : Nat); omega) | omega) (by first | (unfold maxLen; omega) | (show (_ + _) * 8 ≤ (140737488355328 : Nat); omega) | omega) rfl ?_; clear hA hM a; intro a57 c58 w31 hM
          have hl59 : 0 + x.length = x.length := by first | (simp; done) | simp only [List.length_append]
          rw [hl59, show (([] : List Int)).map (Value.int .i64) ++ x.map (Value.int .i64) = x.map (Value.int .i64) by simp] at hM
          replace hM : Mem _ _ [own 3 1 (.slice a57 x.length c58) x.length (x.map (Value.int .i64)), pt b1 #[.int .i64 i.kind, .int .i64 i.n, .int .i64 i.cap, .slice ax3 i.wt.length cx3, .slice ax4 i.vl.length cx4, .slice ax5 i.cost.length cx5] 25] _ := hM
          refine ⟨(hM.drop 0), fun a hA => ?_⟩; rw [hl59] at hA; clear hl59
          refine D.buildSl (cells := #[.int .i64 ((k : Int))]) hA hM rfl Try.underlying22 info3 rfl rfl rfl rfl (by kernel_rfl) rfl ?_; clear hA hM a; intro b60 w32 hb61 hM; refine ⟨(fun hM => (hM.drop 0)) hM.tail, fun a hA => ?_⟩
          replace hM : Mem _ _ [pt b60 #[.int .i64 ((k : Int))] 3, own 3 1 (.slice a57 x.length c58) x.length (x.map (Value.int .i64)), pt b1 #[.int .i64 i.kind, .int .i64 i.n, .int .i64 i.cap, .slice ax3 i.wt.length cx3, .slice ax4 i.vl.length cx4, .slice ax5 i.cost.length cx5] 25] _ := hM
          refine D.append (k := 1) (k2 := 0) hA hM rfl rfl rfl Try.underlying22 info3 rfl rfl rfl rfl rfl rfl rfl rfl rfl (by first | (unfold maxLen; omega) | (show (_ + _) * 8 ≤ (140737488355328 : Nat); omega) | omega) (by first | (unfold maxLen; omega) | (show (_ + _) * 8 ≤ (140737488355328 : Nat); omega) | omega) rfl ?_; clear hA hM a; intro a62 c63 w33 hM
          replace hM : Mem _ _ [pt b60 #[.int .i64 ((k : Int))] 3, own 3 1 (.slice a62 (x.length + 1) c63) (x.length + 1) (x.map (Value.int .i64) ++ [.int .i64 ((k : Int))]), pt b1 #[.int .i64 i.kind, .int .i64 i.n, .int .i64 i.cap, .slice ax3 i.wt.length cx3, .slice ax4 i.vl.length cx4, .slice ax5 i.cost.length cx5] 25] _ := hM
          have hl64 : x.length + 1 = (x ++ [(k : Int)]).length := by simp
          rw [hl64, show x.map (Value.int .i64) ++ [.int .i64 ((k : Int))] = (x ++ [(k : Int)]).map (Value.int .i64) by simp] at hM
          replace hM := hM.drop 0
          replace hM : Mem _ _ [own 3 1 (.slice a62 (((x ++ [(k : Int)])).length) c63) (((x ++ [(k : Int)])).length) (((x ++ [(k : Int)])).map (Value.int .i64)), pt b1 #[.int .i64 i.kind, .int .i64 i.n, .int .i64 i.cap, .slice ax3 i.wt.length cx3, .slice ax4 i.vl.length cx4, .slice ax5 i.cost.length cx5] 25] _ := hM
          refine ⟨(hM.drop 0), fun a hA => ?_⟩; rw [hl64] at hA; clear hl64
          refine D.call hA rfl (R.callF Try.func33 rfl rfl rfl) rfl (ih ax3 cx3 ax4 cx4 ax5 cx5 a62 (x ++ [(k : Int)]) c63 _ (hx3.mem hM) (hx4.mem hM) (hx5.mem hM) (hM.rsl (k := 0) rfl) (by rw [List.length_append, List.length_singleton]; omega)) ?_; clear hA a
          rintro e w34 ⟨bv, rfl, hbv, hb⟩
          replace hM := hM.callB hb; clear hb
          have hbv1 := hbv.1
          have hbv2 := hbv.2.1
          refine ⟨.int .i64 bv, rfl, (hM.drop 0), fun a hA => ?_⟩
          refine D.valF hA rfl (fun _ => R.assign rfl) rfl ?_; clear hA a; intro a hA
          refine D.done ?_
          replace hA : St 93 [(1, _), (2, _), (7, _), (8, _), (9, _), (12, _)] a := hA.sub ((.cons rfl (.cons rfl (.cons rfl (.cons rfl (.cons rfl (.cons rfl .nil)))))))
          refine Ends.seq ?_
          refine Ends.cut (fun (a : Act) (wv : World) => St 93 [(1, .slice ay x.length cy), (2, .pointer (some ⟨b1, 0, none⟩)), (7, .int .i64 r), (8, .int .i64 i.n), (9, .int .i64 ((k : Int))), (12, .int .i64 bv), (90, .bool (decide ((0 ≤ bv ∧ (r < 0 ∨ bv < r)))))] a ∧ Mem w nof [own 3 1 (.slice a62 (((x ++ [(k : Int)])).length) c63) (((x ++ [(k : Int)])).length) (((x ++ [(k : Int)])).map (Value.int .i64)), pt b1 #[.int .i64 i.kind, .int .i64 i.n, .int .i64 i.cap, .slice ax3 i.wt.length cx3, .slice ax4 i.vl.length cx4, .slice ax5 i.cost.length cx5] 25] wv) ?_ (fun k2 hJ => ?_)
          ·
           clear hA hM a; rintro a w35 ⟨hA, hM⟩
           refine Ends.ite hA rfl (fun hc65 => ?_) (fun hc65 => ?_)
           ·
            have hbk2 := best_take hxl hbk hbv hc65
            refine Ends.region ?_
            refine S.val hA (R.move rfl) rfl ?_; clear hA a; intro a hA
            refine S.val hA (R.assign rfl) rfl ?_; clear hA a; intro a hA
            refine S.done ?_
            refine Ends.inBlock (Ends.region ?_)
            refine S.val hA (R.move rfl) rfl ?_; clear hA a; intro a hA
            refine S.val hA (R.addI rfl rfl (r := ((k : Int)) + 1) rfl (by omega)) rfl ?_; clear hA a; intro a hA
            refine S.val hA (R.assign rfl) rfl ?_; clear hA a; intro a hA
            refine S.done ?_
            replace hA : St 93 [(1, _), (2, _), (7, _), (8, _), (9, _)] a := hA.sub ((.cons rfl (.cons rfl (.cons rfl (.cons rfl (.cons rfl .nil))))))
            replace hM := hM.front (k := 1) rfl
            replace hM := hM.firstN 1
            replace hM : Mem _ _ [pt b1 #[.int .i64 i.kind, .int .i64 i.n, .int .i64 i.cap, .slice ax3 i.wt.length cx3, .slice ax4 i.vl.length cx4, .slice ax5 i.cost.length cx5] 25] _ := hM
            exact hNext ((k + 1, bv)) _ _ ((by show 64 - (k + 1) < 64 - k; omega)) ⟨hA.sub ((.cons rfl (.cons rfl (.cons rfl (.cons rfl (.cons rfl .nil)))))), hM, (by omega), hbk2⟩
           ·
            have hbk2 := best_leave hxl hbk hbv hc65
            refine Ends.skip (Ends.inBlock (Ends.region ?_))
            refine S.val hA (R.move rfl) rfl ?_; clear hA a; intro a hA
            refine S.val hA (R.addI rfl rfl (r := ((k : Int)) + 1) rfl (by omega)) rfl ?_; clear hA a; intro a hA
            refine S.val hA (R.assign rfl) rfl ?_; clear hA a; intro a hA
            refine S.done ?_
            replace hA : St 93 [(1, _), (2, _), (7, _), (8, _), (9, _)] a := hA.sub ((.cons rfl (.cons rfl (.cons rfl (.cons rfl (.cons rfl .nil))))))
            replace hM := hM.front (k := 1) rfl
            replace hM := hM.firstN 1
            replace hM : Mem _ _ [pt b1 #[.int .i64 i.kind, .int .i64 i.n, .int .i64 i.cap, .slice ax3 i.wt.length cx3, .slice ax4 i.vl.length cx4, .slice ax5 i.cost.length cx5] 25] _ := hM
            exact hNext ((k + 1, r)) _ _ ((by show 64 - (k + 1) < 64 - k; omega)) ⟨hA.sub ((.cons rfl (.cons rfl (.cons rfl (.cons rfl (.cons rfl .nil)))))), hM, (by omega), hbk2⟩
          ·
           refine Ends.region ?_
           refine S.val hA (R.move rfl) rfl ?_; clear hA a; intro a hA
           refine S.val hA (R.geq rfl rfl) rfl ?_; clear hA a; intro a hA
           refine S.val hA (R.move rfl) rfl ?_; clear hA a; intro a hA
           refine hA.split (d := 82) rfl ?_ ?_
           ·
            clear hA; intro hg66 hA
            refine S.valg (dj := 82) hA (by kernel_rfl) rfl (R.move rfl) rfl ?_; clear hA a; intro a hA
            refine S.valg (dj := 82) hA (by kernel_rfl) rfl (R.lss rfl rfl) rfl ?_; clear hA a; intro a hA
            refine S.valg (dj := 82) hA (by kernel_rfl) rfl (R.move rfl) rfl ?_; clear hA a; intro a hA
            refine hA.split (d := 85) rfl ?_ ?_
            ·
             clear hA; intro hg67 hA
             refine S.no (dj := 85) hA (by kernel_rfl) rfl rfl rfl ?_; clear hA a; intro a hA
             refine S.no (dj := 85) hA (by kernel_rfl) rfl rfl rfl ?_; clear hA a; intro a hA
             refine S.no (dj := 85) hA (by kernel_rfl) rfl rfl rfl ?_; clear hA a; intro a hA
             refine S.valg (dj := 82) hA (by kernel_rfl) rfl (R.pickT rfl rfl) rfl ?_; clear hA a; intro a hA
             refine S.val hA (R.pickT rfl rfl) rfl ?_; clear hA a; intro a hA
             refine S.done ?_
             replace hA : St 93 [(1, _), (2, _), (7, _), (8, _), (9, _), (12, _), (90, _)] a := hA.sub ((.cons rfl (.cons rfl (.cons rfl (.cons rfl (.cons rfl (.cons rfl (.cons rfl .nil))))))))
             exact hJ _ _ ⟨hA.sub (.cons rfl (.cons rfl (.cons rfl (.cons rfl (.cons rfl (.cons rfl (.cons (by first | rfl | exact congrArg (fun b => some (Value.bool b)) (by first | exact decide_eq_decide.2 (by omega) | exact or_bool (by omega) | exact and_bool (by omega) | (simp; done) | (simp [hg66, hg67]; done) | (have h80 := hg66; (try simp at h80); have h81 := hg67; (try simp at h81); simp [h80, h81]; done) | exact (decide_eq_false (fun h9 => hg66 h9.1)).symm | exact (decide_eq_false (fun h9 => hg67 h9.1)).symm)) .nil))))))), hM⟩
            ·
             clear hA; intro hg67 hA
             refine S.valg (dj := 85) hA (by kernel_rfl) rfl (R.move rfl) rfl ?_; clear hA a; intro a hA
             refine S.valg (dj := 85) hA (by kernel_rfl) rfl (R.move rfl) rfl ?_; clear hA a; intro a hA
             refine S.valg (dj := 85) hA (by kernel_rfl) rfl (R.lss rfl rfl) rfl ?_; clear hA a; intro a hA
             refine S.valg (dj := 82) hA (by kernel_rfl) rfl (R.pickF rfl rfl) rfl ?_; clear hA a; intro a hA
             refine S.val hA (R.pickT rfl rfl) rfl ?_; clear hA a; intro a hA
             refine S.done ?_
             replace hA : St 93 [(1, _), (2, _), (7, _), (8, _), (9, _), (12, _), (90, _)] a := hA.sub ((.cons rfl (.cons rfl (.cons rfl (.cons rfl (.cons rfl (.cons rfl (.cons rfl .nil))))))))
             exact hJ _ _ ⟨hA.sub (.cons rfl (.cons rfl (.cons rfl (.cons rfl (.cons rfl (.cons rfl (.cons (by first | rfl | exact congrArg (fun b => some (Value.bool b)) (by first | exact decide_eq_decide.2 (by omega) | exact or_bool (by omega) | exact and_bool (by omega) | (simp; done) | (simp [hg66, hg67]; done) | (have h80 := hg66; (try simp at h80); have h81 := hg67; (try simp at h81); simp [h80, h81]; done) | exact (decide_eq_false (fun h9 => hg66 h9.1)).symm | exact (decide_eq_false (fun h9 => hg67 h9.1)).symm)) .nil))))))), hM⟩
           ·
            clear hA; intro hg66 hA
            refine S.no (dj := 82) hA (by kernel_rfl) rfl rfl rfl ?_; clear hA a; intro a hA
            refine S.no (dj := 82) hA (by kernel_rfl) rfl rfl rfl ?_; clear hA a; intro a hA
            refine S.no (dj := 82) hA (by kernel_rfl) rfl rfl rfl ?_; clear hA a; intro a hA
            refine S.noU (dj := 85) hA (by kernel_rfl) rfl rfl ?_; clear hA a; intro a hA
            refine S.noU (dj := 85) hA (by kernel_rfl) rfl rfl ?_; clear hA a; intro a hA
            refine S.noU (dj := 85) hA (by kernel_rfl) rfl rfl ?_; clear hA a; intro a hA
            refine S.no (dj := 82) hA (by kernel_rfl) rfl rfl rfl ?_; clear hA a; intro a hA
            refine S.val hA (R.pickF rfl rfl) rfl ?_; clear hA a; intro a hA
            refine S.done ?_
            replace hA : St 93 [(1, _), (2, _), (7, _), (8, _), (9, _), (12, _), (90, _)] a := hA.sub ((.cons rfl (.cons rfl (.cons rfl (.cons rfl (.cons rfl (.cons rfl (.cons rfl .nil))))))))
            exact hJ _ _ ⟨hA.sub (.cons rfl (.cons rfl (.cons rfl (.cons rfl (.cons rfl (.cons rfl (.cons (by first | rfl | exact congrArg (fun b => some (Value.bool b)) (by first | exact decide_eq_decide.2 (by omega) | exact or_bool (by omega) | exact and_bool (by omega) | (simp; done) | (simp [hg66]; done) | (have h80 := hg66; (try simp at h80); simp [h80]; done) | exact (decide_eq_false (fun h9 => hg66 h9.1)).symm)) .nil))))))), hM⟩
         ·
          refine D.buildSl (cells := #[.int .i64 ((k : Int))]) hA hM rfl Try.underlying22 info3 rfl rfl rfl rfl (by kernel_rfl) rfl ?_; clear hA hM a; intro b68 w36 hb69 hM; refine ⟨(fun hM => (hM.drop 0)) hM.tail, fun a hA => ?_⟩
          replace hM : Mem _ _ [pt b68 #[.int .i64 ((k : Int))] 3, own 3 1 (.slice ((some ⟨b55, 0, none⟩)) 0 0) 0 ((([] : List Int)).map (Value.int .i64)), pt b1 #[.int .i64 i.kind, .int .i64 i.n, .int .i64 i.cap, .slice ax3 i.wt.length cx3, .slice ax4 i.vl.length cx4, .slice ax5 i.cost.length cx5] 25] _ := hM
          refine D.appendI2 (k := 1) hA hM rfl rfl (hy.mem hM) Try.underlying22 info3 rfl rfl rfl rfl rfl rfl (by first | (unfold maxLen; omega) | (show (_ + _) * 8 ≤ (140737488355328 : Nat); omega) | omega) (by first | (unfold maxLen; omega) | (show (_ + _) * 8 ≤ (140737488355328 : Nat); omega) | omega) rfl ?_; clear hA hM a; intro a70 c71 w37 hM
          have hl72 : 0 + x.length = x.length := by first | (simp; done) | simp only [List.length_append]
          rw [hl72, show (([] : List Int)).map (Value.int .i64) ++ x.map (Value.int .i64) = x.map (Value.int .i64) by simp] at hM
          replace hM : Mem _ _ [pt b68 #[.int .i64 ((k : Int))] 3, own 3 1 (.slice a70 x.length c71) x.length (x.map (Value.int .i64)), pt b1 #[.int .i64 i.kind, .int .i64 i.n, .int .i64 i.cap, .slice ax3 i.wt.length cx3, .slice ax4 i.vl.length cx4, .slice ax5 i.cost.length cx5] 25] _ := hM
          refine ⟨((hM.drop 1).drop 0), fun a hA => ?_⟩; rw [hl72] at hA; clear hl72
          refine D.append (k := 1) (k2 := 0) hA hM rfl rfl rfl Try.underlying22 info3 rfl rfl rfl rfl rfl rfl rfl rfl rfl (by first | (unfold maxLen; omega) | (show (_ + _) * 8 ≤ (140737488355328 : Nat); omega) | omega) (by first | (unfold maxLen; omega) | (show (_ + _) * 8 ≤ (140737488355328 : Nat); omega) | omega) rfl ?_; clear hA hM a; intro a73 c74 w38 hM
          replace hM : Mem _ _ [pt b68 #[.int .i64 ((k : Int))] 3, own 3 1 (.slice a73 (x.length + 1) c74) (x.length + 1) (x.map (Value.int .i64) ++ [.int .i64 ((k : Int))]), pt b1 #[.int .i64 i.kind, .int .i64 i.n, .int .i64 i.cap, .slice ax3 i.wt.length cx3, .slice ax4 i.vl.length cx4, .slice ax5 i.cost.length cx5] 25] _ := hM
          have hl75 : x.length + 1 = (x ++ [(k : Int)]).length := by simp
          rw [hl75, show x.map (Value.int .i64) ++ [.int .i64 ((k : Int))] = (x ++ [(k : Int)]).map (Value.int .i64) by simp] at hM
          replace hM := hM.drop 0
          replace hM : Mem _ _ [own 3 1 (.slice a73 (((x ++ [(k : Int)])).length) c74) (((x ++ [(k : Int)])).length) (((x ++ [(k : Int)])).map (Value.int .i64)), pt b1 #[.int .i64 i.kind, .int .i64 i.n, .int .i64 i.cap, .slice ax3 i.wt.length cx3, .slice ax4 i.vl.length cx4, .slice ax5 i.cost.length cx5] 25] _ := hM
          refine ⟨(hM.drop 0), fun a hA => ?_⟩; rw [hl75] at hA; clear hl75
          refine D.call hA rfl (R.callF Try.func33 rfl rfl rfl) rfl (ih ax3 cx3 ax4 cx4 ax5 cx5 a73 (x ++ [(k : Int)]) c74 _ (hx3.mem hM) (hx4.mem hM) (hx5.mem hM) (hM.rsl (k := 0) rfl) (by rw [List.length_append, List.length_singleton]; omega)) ?_; clear hA a
          rintro e w39 ⟨bv, rfl, hbv, hb⟩
          replace hM := hM.callB hb; clear hb
          have hbv1 := hbv.1
          have hbv2 := hbv.2.1
          refine ⟨.int .i64 bv, rfl, (hM.drop 0), fun a hA => ?_⟩
          refine D.valF hA rfl (fun _ => R.assign rfl) rfl ?_; clear hA a; intro a hA
          refine D.done ?_
          replace hA : St 93 [(1, _), (2, _), (7, _), (8, _), (9, _), (12, _)] a := hA.sub ((.cons rfl (.cons rfl (.cons rfl (.cons rfl (.cons rfl (.cons rfl .nil)))))))
          refine Ends.seq ?_
          refine Ends.cut (fun (a : Act) (wv : World) => St 93 [(1, .slice ay x.length cy), (2, .pointer (some ⟨b1, 0, none⟩)), (7, .int .i64 r), (8, .int .i64 i.n), (9, .int .i64 ((k : Int))), (12, .int .i64 bv), (90, .bool (decide ((0 ≤ bv ∧ (r < 0 ∨ bv < r)))))] a ∧ Mem w nof [own 3 1 (.slice a73 (((x ++ [(k : Int)])).length) c74) (((x ++ [(k : Int)])).length) (((x ++ [(k : Int)])).map (Value.int .i64)), pt b1 #[.int .i64 i.kind, .int .i64 i.n, .int .i64 i.cap, .slice ax3 i.wt.length cx3, .slice ax4 i.vl.length cx4, .slice ax5 i.cost.length cx5] 25] wv) ?_ (fun k2 hJ => ?_)
          ·
           clear hA hM a; rintro a w40 ⟨hA, hM⟩
           refine Ends.ite hA rfl (fun hc76 => ?_) (fun hc76 => ?_)
           ·
            have hbk2 := best_take hxl hbk hbv hc76
            refine Ends.region ?_
            refine S.val hA (R.move rfl) rfl ?_; clear hA a; intro a hA
            refine S.val hA (R.assign rfl) rfl ?_; clear hA a; intro a hA
            refine S.done ?_
            refine Ends.inBlock (Ends.region ?_)
            refine S.val hA (R.move rfl) rfl ?_; clear hA a; intro a hA
            refine S.val hA (R.addI rfl rfl (r := ((k : Int)) + 1) rfl (by omega)) rfl ?_; clear hA a; intro a hA
            refine S.val hA (R.assign rfl) rfl ?_; clear hA a; intro a hA
            refine S.done ?_
            replace hA : St 93 [(1, _), (2, _), (7, _), (8, _), (9, _)] a := hA.sub ((.cons rfl (.cons rfl (.cons rfl (.cons rfl (.cons rfl .nil))))))
            replace hM := hM.front (k := 1) rfl
            replace hM := hM.firstN 1
            replace hM : Mem _ _ [pt b1 #[.int .i64 i.kind, .int .i64 i.n, .int .i64 i.cap, .slice ax3 i.wt.length cx3, .slice ax4 i.vl.length cx4, .slice ax5 i.cost.length cx5] 25] _ := hM
            exact hNext ((k + 1, bv)) _ _ ((by show 64 - (k + 1) < 64 - k; omega)) ⟨hA.sub ((.cons rfl (.cons rfl (.cons rfl (.cons rfl (.cons rfl .nil)))))), hM, (by omega), hbk2⟩
           ·
            have hbk2 := best_leave hxl hbk hbv hc76
            refine Ends.skip (Ends.inBlock (Ends.region ?_))
            refine S.val hA (R.move rfl) rfl ?_; clear hA a; intro a hA
            refine S.val hA (R.addI rfl rfl (r := ((k : Int)) + 1) rfl (by omega)) rfl ?_; clear hA a; intro a hA
            refine S.val hA (R.assign rfl) rfl ?_; clear hA a; intro a hA
            refine S.done ?_
            replace hA : St 93 [(1, _), (2, _), (7, _), (8, _), (9, _)] a := hA.sub ((.cons rfl (.cons rfl (.cons rfl (.cons rfl (.cons rfl .nil))))))
            replace hM := hM.front (k := 1) rfl
            replace hM := hM.firstN 1
            replace hM : Mem _ _ [pt b1 #[.int .i64 i.kind, .int .i64 i.n, .int .i64 i.cap, .slice ax3 i.wt.length cx3, .slice ax4 i.vl.length cx4, .slice ax5 i.cost.length cx5] 25] _ := hM
            exact hNext ((k + 1, r)) _ _ ((by show 64 - (k + 1) < 64 - k; omega)) ⟨hA.sub ((.cons rfl (.cons rfl (.cons rfl (.cons rfl (.cons rfl .nil)))))), hM, (by omega), hbk2⟩
          ·
           refine Ends.region ?_
           refine S.val hA (R.move rfl) rfl ?_; clear hA a; intro a hA
           refine S.val hA (R.geq rfl rfl) rfl ?_; clear hA a; intro a hA
           refine S.val hA (R.move rfl) rfl ?_; clear hA a; intro a hA
           refine hA.split (d := 82) rfl ?_ ?_
           ·
            clear hA; intro hg77 hA
            refine S.valg (dj := 82) hA (by kernel_rfl) rfl (R.move rfl) rfl ?_; clear hA a; intro a hA
            refine S.valg (dj := 82) hA (by kernel_rfl) rfl (R.lss rfl rfl) rfl ?_; clear hA a; intro a hA
            refine S.valg (dj := 82) hA (by kernel_rfl) rfl (R.move rfl) rfl ?_; clear hA a; intro a hA
            refine hA.split (d := 85) rfl ?_ ?_
            ·
             clear hA; intro hg78 hA
             refine S.no (dj := 85) hA (by kernel_rfl) rfl rfl rfl ?_; clear hA a; intro a hA
             refine S.no (dj := 85) hA (by kernel_rfl) rfl rfl rfl ?_; clear hA a; intro a hA
             refine S.no (dj := 85) hA (by kernel_rfl) rfl rfl rfl ?_; clear hA a; intro a hA
             refine S.valg (dj := 82) hA (by kernel_rfl) rfl (R.pickT rfl rfl) rfl ?_; clear hA a; intro a hA
             refine S.val hA (R.pickT rfl rfl) rfl ?_; clear hA a; intro a hA
             refine S.done ?_
             replace hA : St 93 [(1, _), (2, _), (7, _), (8, _), (9, _), (12, _), (90, _)] a := hA.sub ((.cons rfl (.cons rfl (.cons rfl (.cons rfl (.cons rfl (.cons rfl (.cons rfl .nil))))))))
             exact hJ _ _ ⟨hA.sub (.cons rfl (.cons rfl (.cons rfl (.cons rfl (.cons rfl (.cons rfl (.cons (by first | rfl | exact congrArg (fun b => some (Value.bool b)) (by first | exact decide_eq_decide.2 (by omega) | exact or_bool (by omega) | exact and_bool (by omega) | (simp; done) | (simp [hg77, hg78]; done) | (have h80 := hg77; (try simp at h80); have h81 := hg78; (try simp at h81); simp [h80, h81]; done) | exact (decide_eq_false (fun h9 => hg77 h9.1)).symm | exact (decide_eq_false (fun h9 => hg78 h9.1)).symm)) .nil))))))), hM⟩
            ·
             clear hA; intro hg78 hA
             refine S.valg (dj := 85) hA (by kernel_rfl) rfl (R.move rfl) rfl ?_; clear hA a; intro a hA
             refine S.valg (dj := 85) hA (by kernel_rfl) rfl (R.move rfl) rfl ?_; clear hA a; intro a hA
             refine S.valg (dj := 85) hA (by kernel_rfl) rfl (R.lss rfl rfl) rfl ?_; clear hA a; intro a hA
             refine S.valg (dj := 82) hA (by kernel_rfl) rfl (R.pickF rfl rfl) rfl ?_; clear hA a; intro a hA
             refine S.val hA (R.pickT rfl rfl) rfl ?_; clear hA a; intro a hA
             refine S.done ?_
             replace hA : St 93 [(1, _), (2, _), (7, _), (8, _), (9, _), (12, _), (90, _)] a := hA.sub ((.cons rfl (.cons rfl (.cons rfl (.cons rfl (.cons rfl (.cons rfl (.cons rfl .nil))))))))
             exact hJ _ _ ⟨hA.sub (.cons rfl (.cons rfl (.cons rfl (.cons rfl (.cons rfl (.cons rfl (.cons (by first | rfl | exact congrArg (fun b => some (Value.bool b)) (by first | exact decide_eq_decide.2 (by omega) | exact or_bool (by omega) | exact and_bool (by omega) | (simp; done) | (simp [hg77, hg78]; done) | (have h80 := hg77; (try simp at h80); have h81 := hg78; (try simp at h81); simp [h80, h81]; done) | exact (decide_eq_false (fun h9 => hg77 h9.1)).symm | exact (decide_eq_false (fun h9 => hg78 h9.1)).symm)) .nil))))))), hM⟩
           ·
            clear hA; intro hg77 hA
            refine S.no (dj := 82) hA (by kernel_rfl) rfl rfl rfl ?_; clear hA a; intro a hA
            refine S.no (dj := 82) hA (by kernel_rfl) rfl rfl rfl ?_; clear hA a; intro a hA
            refine S.no (dj := 82) hA (by kernel_rfl) rfl rfl rfl ?_; clear hA a; intro a hA
            refine S.noU (dj := 85) hA (by kernel_rfl) rfl rfl ?_; clear hA a; intro a hA
            refine S.noU (dj := 85) hA (by kernel_rfl) rfl rfl ?_; clear hA a; intro a hA
            refine S.noU (dj := 85) hA (by kernel_rfl) rfl rfl ?_; clear hA a; intro a hA
            refine S.no (dj := 82) hA (by kernel_rfl) rfl rfl rfl ?_; clear hA a; intro a hA
            refine S.val hA (R.pickF rfl rfl) rfl ?_; clear hA a; intro a hA
            refine S.done ?_
            replace hA : St 93 [(1, _), (2, _), (7, _), (8, _), (9, _), (12, _), (90, _)] a := hA.sub ((.cons rfl (.cons rfl (.cons rfl (.cons rfl (.cons rfl (.cons rfl (.cons rfl .nil))))))))
            exact hJ _ _ ⟨hA.sub (.cons rfl (.cons rfl (.cons rfl (.cons rfl (.cons rfl (.cons rfl (.cons (by first | rfl | exact congrArg (fun b => some (Value.bool b)) (by first | exact decide_eq_decide.2 (by omega) | exact or_bool (by omega) | exact and_bool (by omega) | (simp; done) | (simp [hg77]; done) | (have h80 := hg77; (try simp at h80); simp [h80]; done) | exact (decide_eq_false (fun h9 => hg77 h9.1)).symm)) .nil))))))), hM⟩
        ·
         refine D.buildSl (cells := #[.int .i64 ((k : Int))]) hA hM rfl Try.underlying22 info3 rfl rfl rfl rfl (by kernel_rfl) rfl ?_; clear hA hM a; intro b79 w41 hb80 hM; refine ⟨hM.tail, fun a hA => ?_⟩
         replace hM : Mem _ _ [pt b79 #[.int .i64 ((k : Int))] 3, pt b1 #[.int .i64 i.kind, .int .i64 i.n, .int .i64 i.cap, .slice ax3 i.wt.length cx3, .slice ax4 i.vl.length cx4, .slice ax5 i.cost.length cx5] 25] _ := hM
         refine D.buildSl0 hA hM rfl Try.underlying22 info3 rfl ?_; clear hA hM a; intro b81 w42 hb82 hM; refine ⟨(fun hM => (hM.drop 0)) hM.tail, fun a hA => ?_⟩
         replace hM := hM.ownPt (cap := 0) (n := 0) (sz := 1) (xs := []) rfl (Nat.zero_le _) (Nat.le_refl _) rfl
         replace hM : Mem _ _ [own 3 1 (.slice ((some ⟨b81, 0, none⟩)) 0 0) 0 ((([] : List Int)).map (Value.int .i64)), pt b79 #[.int .i64 ((k : Int))] 3, pt b1 #[.int .i64 i.kind, .int .i64 i.n, .int .i64 i.cap, .slice ax3 i.wt.length cx3, .slice ax4 i.vl.length cx4, .slice ax5 i.cost.length cx5] 25] _ := hM
         refine D.appendI2 (k := 0) hA hM rfl rfl (hy.mem hM) Try.underlying22 info3 rfl rfl rfl rfl rfl rfl (by first | (unfold maxLen; omega) | (show (_ + _) * 8 ≤ (140737488355328 : Nat); omega) | omega) (by first | (unfold maxLen; omega) | (show (_ + _) * 8 ≤ (140737488355328 : Nat); omega) | omega) rfl ?_; clear hA hM a; intro a83 c84 w43 hM
         have hl85 : 0 + x.length = x.length := by first | (simp; done) | simp only [List.length_append]
         rw [hl85, show (([] : List Int)).map (Value.int .i64) ++ x.map (Value.int .i64) = x.map (Value.int .i64) by simp] at hM
         replace hM : Mem _ _ [own 3 1 (.slice a83 x.length c84) x.length (x.map (Value.int .i64)), pt b79 #[.int .i64 ((k : Int))] 3, pt b1 #[.int .i64 i.kind, .int .i64 i.n, .int .i64 i.cap, .slice ax3 i.wt.length cx3, .slice ax4 i.vl.length cx4, .slice ax5 i.cost.length cx5] 25] _ := hM
         refine ⟨((hM.drop 1).drop 0), fun a hA => ?_⟩; rw [hl85] at hA; clear hl85
         refine D.append (k := 0) (k2 := 1) hA hM rfl rfl rfl Try.underlying22 info3 rfl rfl rfl rfl rfl rfl rfl rfl rfl (by first | (unfold maxLen; omega) | (show (_ + _) * 8 ≤ (140737488355328 : Nat); omega) | omega) (by first | (unfold maxLen; omega) | (show (_ + _) * 8 ≤ (140737488355328 : Nat); omega) | omega) rfl ?_; clear hA hM a; intro a86 c87 w44 hM
         replace hM : Mem _ _ [own 3 1 (.slice a86 (x.length + 1) c87) (x.length + 1) (x.map (Value.int .i64) ++ [.int .i64 ((k : Int))]), pt b79 #[.int .i64 ((k : Int))] 3, pt b1 #[.int .i64 i.kind, .int .i64 i.n, .int .i64 i.cap, .slice ax3 i.wt.length cx3, .slice ax4 i.vl.length cx4, .slice ax5 i.cost.length cx5] 25] _ := hM
         have hl88 : x.length + 1 = (x ++ [(k : Int)]).length := by simp
         rw [hl88, show x.map (Value.int .i64) ++ [.int .i64 ((k : Int))] = (x ++ [(k : Int)]).map (Value.int .i64) by simp] at hM
         replace hM := hM.drop 1
         replace hM : Mem _ _ [own 3 1 (.slice a86 (((x ++ [(k : Int)])).length) c87) (((x ++ [(k : Int)])).length) (((x ++ [(k : Int)])).map (Value.int .i64)), pt b1 #[.int .i64 i.kind, .int .i64 i.n, .int .i64 i.cap, .slice ax3 i.wt.length cx3, .slice ax4 i.vl.length cx4, .slice ax5 i.cost.length cx5] 25] _ := hM
         refine ⟨(hM.drop 0), fun a hA => ?_⟩; rw [hl88] at hA; clear hl88
         refine D.call hA rfl (R.callF Try.func33 rfl rfl rfl) rfl (ih ax3 cx3 ax4 cx4 ax5 cx5 a86 (x ++ [(k : Int)]) c87 _ (hx3.mem hM) (hx4.mem hM) (hx5.mem hM) (hM.rsl (k := 0) rfl) (by rw [List.length_append, List.length_singleton]; omega)) ?_; clear hA a
         rintro e w45 ⟨bv, rfl, hbv, hb⟩
         replace hM := hM.callB hb; clear hb
         have hbv1 := hbv.1
         have hbv2 := hbv.2.1
         refine ⟨.int .i64 bv, rfl, (hM.drop 0), fun a hA => ?_⟩
         refine D.valF hA rfl (fun _ => R.assign rfl) rfl ?_; clear hA a; intro a hA
         refine D.done ?_
         replace hA : St 93 [(1, _), (2, _), (7, _), (8, _), (9, _), (12, _)] a := hA.sub ((.cons rfl (.cons rfl (.cons rfl (.cons rfl (.cons rfl (.cons rfl .nil)))))))
         refine Ends.seq ?_
         refine Ends.cut (fun (a : Act) (wv : World) => St 93 [(1, .slice ay x.length cy), (2, .pointer (some ⟨b1, 0, none⟩)), (7, .int .i64 r), (8, .int .i64 i.n), (9, .int .i64 ((k : Int))), (12, .int .i64 bv), (90, .bool (decide ((0 ≤ bv ∧ (r < 0 ∨ bv < r)))))] a ∧ Mem w nof [own 3 1 (.slice a86 (((x ++ [(k : Int)])).length) c87) (((x ++ [(k : Int)])).length) (((x ++ [(k : Int)])).map (Value.int .i64)), pt b1 #[.int .i64 i.kind, .int .i64 i.n, .int .i64 i.cap, .slice ax3 i.wt.length cx3, .slice ax4 i.vl.length cx4, .slice ax5 i.cost.length cx5] 25] wv) ?_ (fun k2 hJ => ?_)
         ·
          clear hA hM a; rintro a w46 ⟨hA, hM⟩
          refine Ends.ite hA rfl (fun hc89 => ?_) (fun hc89 => ?_)
          ·
           have hbk2 := best_take hxl hbk hbv hc89
           refine Ends.region ?_
           refine S.val hA (R.move rfl) rfl ?_; clear hA a; intro a hA
           refine S.val hA (R.assign rfl) rfl ?_; clear hA a; intro a hA
           refine S.done ?_
           refine Ends.inBlock (Ends.region ?_)
           refine S.val hA (R.move rfl) rfl ?_; clear hA a; intro a hA
           refine S.val hA (R.addI rfl rfl (r := ((k : Int)) + 1) rfl (by omega)) rfl ?_; clear hA a; intro a hA
           refine S.val hA (R.assign rfl) rfl ?_; clear hA a; intro a hA
           refine S.done ?_
           replace hA : St 93 [(1, _), (2, _), (7, _), (8, _), (9, _)] a := hA.sub ((.cons rfl (.cons rfl (.cons rfl (.cons rfl (.cons rfl .nil))))))
           replace hM := hM.front (k := 1) rfl
           replace hM := hM.firstN 1
           replace hM : Mem _ _ [pt b1 #[.int .i64 i.kind, .int .i64 i.n, .int .i64 i.cap, .slice ax3 i.wt.length cx3, .slice ax4 i.vl.length cx4, .slice ax5 i.cost.length cx5] 25] _ := hM
           exact hNext ((k + 1, bv)) _ _ ((by show 64 - (k + 1) < 64 - k; omega)) ⟨hA.sub ((.cons rfl (.cons rfl (.cons rfl (.cons rfl (.cons rfl .nil)))))), hM, (by omega), hbk2⟩
          ·
           have hbk2 := best_leave hxl hbk hbv hc89
           refine Ends.skip (Ends.inBlock (Ends.region ?_))
           refine S.val hA (R.move rfl) rfl ?_; clear hA a; intro a hA
           refine S.val hA (R.addI rfl rfl (r := ((k : Int)) + 1) rfl (by omega)) rfl ?_; clear hA a; intro a hA
           refine S.val hA (R.assign rfl) rfl ?_; clear hA a; intro a hA
           refine S.done ?_
           replace hA : St 93 [(1, _), (2, _), (7, _), (8, _), (9, _)] a := hA.sub ((.cons rfl (.cons rfl (.cons rfl (.cons rfl (.cons rfl .nil))))))
           replace hM := hM.front (k := 1) rfl
           replace hM := hM.firstN 1
           replace hM : Mem _ _ [pt b1 #[.int .i64 i.kind, .int .i64 i.n, .int .i64 i.cap, .slice ax3 i.wt.length cx3, .slice ax4 i.vl.length cx4, .slice ax5 i.cost.length cx5] 25] _ := hM
           exact hNext ((k + 1, r)) _ _ ((by show 64 - (k + 1) < 64 - k; omega)) ⟨hA.sub ((.cons rfl (.cons rfl (.cons rfl (.cons rfl (.cons rfl .nil)))))), hM, (by omega), hbk2⟩
         ·
          refine Ends.region ?_
          refine S.val hA (R.move rfl) rfl ?_; clear hA a; intro a hA
          refine S.val hA (R.geq rfl rfl) rfl ?_; clear hA a; intro a hA
          refine S.val hA (R.move rfl) rfl ?_; clear hA a; intro a hA
          refine hA.split (d := 82) rfl ?_ ?_
          ·
           clear hA; intro hg90 hA
           refine S.valg (dj := 82) hA (by kernel_rfl) rfl (R.move rfl) rfl ?_; clear hA a; intro a hA
           refine S.valg (dj := 82) hA (by kernel_rfl) rfl (R.lss rfl rfl) rfl ?_; clear hA a; intro a hA
           refine S.valg (dj := 82) hA (by kernel_rfl) rfl (R.move rfl) rfl ?_; clear hA a; intro a hA
           refine hA.split (d := 85) rfl ?_ ?_
           ·
            clear hA; intro hg91 hA
            refine S.no (dj := 85) hA (by kernel_rfl) rfl rfl rfl ?_; clear hA a; intro a hA
            refine S.no (dj := 85) hA (by kernel_rfl) rfl rfl rfl ?_; clear hA a; intro a hA
            refine S.no (dj := 85) hA (by kernel_rfl) rfl rfl rfl ?_; clear hA a; intro a hA
            refine S.valg (dj := 82) hA (by kernel_rfl) rfl (R.pickT rfl rfl) rfl ?_; clear hA a; intro a hA
            refine S.val hA (R.pickT rfl rfl) rfl ?_; clear hA a; intro a hA
            refine S.done ?_
            replace hA : St 93 [(1, _), (2, _), (7, _), (8, _), (9, _), (12, _), (90, _)] a := hA.sub ((.cons rfl (.cons rfl (.cons rfl (.cons rfl (.cons rfl (.cons rfl (.cons rfl .nil))))))))
            exact hJ _ _ ⟨hA.sub (.cons rfl (.cons rfl (.cons rfl (.cons rfl (.cons rfl (.cons rfl (.cons (by first | rfl | exact congrArg (fun b => some (Value.bool b)) (by first | exact decide_eq_decide.2 (by omega) | exact or_bool (by omega) | exact and_bool (by omega) | (simp; done) | (simp [hg90, hg91]; done) | (have h80 := hg90; (try simp at h80); have h81 := hg91; (try simp at h81); simp [h80, h81]; done) | exact (decide_eq_false (fun h9 => hg90 h9.1)).symm | exact (decide_eq_false (fun h9 => hg91 h9.1)).symm)) .nil))))))), hM⟩
           ·
            clear hA; intro hg91 hA
            refine S.valg (dj := 85) hA (by kernel_rfl) rfl (R.move rfl) rfl ?_; clear hA a; intro a hA
            refine S.valg (dj := 85) hA (by kernel_rfl) rfl (R.move rfl) rfl ?_; clear hA a; intro a hA
            refine S.valg (dj := 85) hA (by kernel_rfl) rfl (R.lss rfl rfl) rfl ?_; clear hA a; intro a hA
            refine S.valg (dj := 82) hA (by kernel_rfl) rfl (R.pickF rfl rfl) rfl ?_; clear hA a; intro a hA
            refine S.val hA (R.pickT rfl rfl) rfl ?_; clear hA a; intro a hA
            refine S.done ?_
            replace hA : St 93 [(1, _), (2, _), (7, _), (8, _), (9, _), (12, _), (90, _)] a := hA.sub ((.cons rfl (.cons rfl (.cons rfl (.cons rfl (.cons rfl (.cons rfl (.cons rfl .nil))))))))
            exact hJ _ _ ⟨hA.sub (.cons rfl (.cons rfl (.cons rfl (.cons rfl (.cons rfl (.cons rfl (.cons (by first | rfl | exact congrArg (fun b => some (Value.bool b)) (by first | exact decide_eq_decide.2 (by omega) | exact or_bool (by omega) | exact and_bool (by omega) | (simp; done) | (simp [hg90, hg91]; done) | (have h80 := hg90; (try simp at h80); have h81 := hg91; (try simp at h81); simp [h80, h81]; done) | exact (decide_eq_false (fun h9 => hg90 h9.1)).symm | exact (decide_eq_false (fun h9 => hg91 h9.1)).symm)) .nil))))))), hM⟩
          ·
           clear hA; intro hg90 hA
           refine S.no (dj := 82) hA (by kernel_rfl) rfl rfl rfl ?_; clear hA a; intro a hA
           refine S.no (dj := 82) hA (by kernel_rfl) rfl rfl rfl ?_; clear hA a; intro a hA
           refine S.no (dj := 82) hA (by kernel_rfl) rfl rfl rfl ?_; clear hA a; intro a hA
           refine S.noU (dj := 85) hA (by kernel_rfl) rfl rfl ?_; clear hA a; intro a hA
           refine S.noU (dj := 85) hA (by kernel_rfl) rfl rfl ?_; clear hA a; intro a hA
           refine S.noU (dj := 85) hA (by kernel_rfl) rfl rfl ?_; clear hA a; intro a hA
           refine S.no (dj := 82) hA (by kernel_rfl) rfl rfl rfl ?_; clear hA a; intro a hA
           refine S.val hA (R.pickF rfl rfl) rfl ?_; clear hA a; intro a hA
           refine S.done ?_
           replace hA : St 93 [(1, _), (2, _), (7, _), (8, _), (9, _), (12, _), (90, _)] a := hA.sub ((.cons rfl (.cons rfl (.cons rfl (.cons rfl (.cons rfl (.cons rfl (.cons rfl .nil))))))))
           exact hJ _ _ ⟨hA.sub (.cons rfl (.cons rfl (.cons rfl (.cons rfl (.cons rfl (.cons rfl (.cons (by first | rfl | exact congrArg (fun b => some (Value.bool b)) (by first | exact decide_eq_decide.2 (by omega) | exact or_bool (by omega) | exact and_bool (by omega) | (simp; done) | (simp [hg90]; done) | (have h80 := hg90; (try simp at h80); simp [h80]; done) | exact (decide_eq_false (fun h9 => hg90 h9.1)).symm)) .nil))))))), hM⟩
      ·
       refine Ends.region ?_
       refine S.val hA (R.move rfl) rfl ?_; clear hA a; intro a hA
       refine S.val hA (R.move rfl) rfl ?_; clear hA a; intro a hA
       refine hA.split (d := 58) rfl ?_ ?_
       ·
        clear hA; intro hg92 hA
        refine S.no (dj := 58) hA (by kernel_rfl) rfl rfl rfl ?_; clear hA a; intro a hA
        refine S.no (dj := 58) hA (by kernel_rfl) rfl rfl rfl ?_; clear hA a; intro a hA
        refine S.no (dj := 58) hA (by kernel_rfl) rfl rfl rfl ?_; clear hA a; intro a hA
        refine S.no (dj := 58) hA (by kernel_rfl) rfl rfl rfl ?_; clear hA a; intro a hA
        refine S.noU (dj := 62) hA (by kernel_rfl) rfl rfl ?_; clear hA a; intro a hA
        refine S.noU (dj := 62) hA (by kernel_rfl) rfl rfl ?_; clear hA a; intro a hA
        refine S.noU (dj := 62) hA (by kernel_rfl) rfl rfl ?_; clear hA a; intro a hA
        refine S.no (dj := 58) hA (by kernel_rfl) rfl rfl rfl ?_; clear hA a; intro a hA
        refine S.no (dj := 58) hA (by kernel_rfl) rfl rfl rfl ?_; clear hA a; intro a hA
        refine S.noU (dj := 67) hA (by kernel_rfl) rfl rfl ?_; clear hA a; intro a hA
        refine S.noU (dj := 67) hA (by kernel_rfl) rfl rfl ?_; clear hA a; intro a hA
        refine S.no (dj := 58) hA (by kernel_rfl) rfl rfl rfl ?_; clear hA a; intro a hA
        refine S.val hA (R.pickT rfl rfl) rfl ?_; clear hA a; intro a hA
        refine S.done ?_
        replace hA : St 93 [(1, _), (2, _), (7, _), (8, _), (9, _), (71, _)] a := hA.sub ((.cons rfl (.cons rfl (.cons rfl (.cons rfl (.cons rfl (.cons rfl .nil)))))))
        exact hJ _ _ ⟨hA.sub (.cons rfl (.cons rfl (.cons rfl (.cons rfl (.cons rfl (.cons (by first | rfl | exact congrArg (fun b => some (Value.bool b)) (by first | exact decide_eq_decide.2 (by omega) | exact or_bool (by omega) | exact and_bool (by omega) | (simp; done) | (simp [hg92]; done) | (have h80 := hg92; (try simp at h80); simp [h80]; done) | exact (decide_eq_false (fun h9 => hg92 h9.1)).symm)) .nil)))))), hM⟩
       ·
        clear hA; intro hg92 hA
        refine S.valg (dj := 58) hA (by kernel_rfl) rfl (R.fieldAddr (q := 0) fi25_0 rfl rfl rfl) rfl ?_; clear hA a; intro a hA
        refine S.valg (dj := 58) hA (by kernel_rfl) rfl (R.load sz3 rfl (hM.cell (k := 0) rfl rfl)) rfl ?_; clear hA a; intro a hA
        refine S.valg (dj := 58) hA (by kernel_rfl) rfl (R.eql rfl rfl) rfl ?_; clear hA a; intro a hA
        refine S.valg (dj := 58) hA (by kernel_rfl) rfl (R.move rfl) rfl ?_; clear hA a; intro a hA
        refine hA.split (d := 62) rfl ?_ ?_
        ·
         clear hA; intro hg93 hA
         refine S.valg (dj := 62) hA (by kernel_rfl) rfl (R.move rfl) rfl ?_; clear hA a; intro a hA
         refine S.valg (dj := 62) hA (by kernel_rfl) rfl (R.lenS Try.underlying22 rfl rfl) rfl ?_; clear hA a; intro a hA
         refine S.valg (dj := 62) hA (by kernel_rfl) rfl (R.eql rfl rfl) rfl ?_; clear hA a; intro a hA
         refine S.valg (dj := 58) hA (by kernel_rfl) rfl (R.pickT rfl rfl) rfl ?_; clear hA a; intro a hA
         refine S.valg (dj := 58) hA (by kernel_rfl) rfl (R.move rfl) rfl ?_; clear hA a; intro a hA
         refine hA.split (d := 67) rfl ?_ ?_
         ·
          clear hA; intro hg94 hA
          refine S.valg (dj := 67) hA (by kernel_rfl) rfl (R.move rfl) rfl ?_; clear hA a; intro a hA
          refine S.valg (dj := 67) hA (by kernel_rfl) rfl (R.neq rfl rfl) rfl ?_; clear hA a; intro a hA
          refine S.valg (dj := 58) hA (by kernel_rfl) rfl (R.pickT rfl rfl) rfl ?_; clear hA a; intro a hA
          refine S.val hA (R.pickF rfl rfl) rfl ?_; clear hA a; intro a hA
          refine S.done ?_
          replace hA : St 93 [(1, _), (2, _), (7, _), (8, _), (9, _), (71, _)] a := hA.sub ((.cons rfl (.cons rfl (.cons rfl (.cons rfl (.cons rfl (.cons rfl .nil)))))))
          exact hJ _ _ ⟨hA.sub (.cons rfl (.cons rfl (.cons rfl (.cons rfl (.cons rfl (.cons (by first | rfl | exact congrArg (fun b => some (Value.bool b)) (by first | exact decide_eq_decide.2 (by omega) | exact or_bool (by omega) | exact and_bool (by omega) | (simp; done) | (simp [hg92, hg93, hg94]; done) | (have h80 := hg92; (try simp at h80); have h81 := hg93; (try simp at h81); have h82 := hg94; (try simp at h82); simp [h80, h81, h82]; done) | exact (decide_eq_false (fun h9 => hg92 h9.1)).symm | exact (decide_eq_false (fun h9 => hg93 h9.1)).symm | exact (decide_eq_false (fun h9 => hg94 h9.1)).symm)) .nil)))))), hM⟩
         ·
          clear hA; intro hg94 hA
          refine S.no (dj := 67) hA (by kernel_rfl) rfl rfl rfl ?_; clear hA a; intro a hA
          refine S.no (dj := 67) hA (by kernel_rfl) rfl rfl rfl ?_; clear hA a; intro a hA
          refine S.valg (dj := 58) hA (by kernel_rfl) rfl (R.pickF rfl rfl) rfl ?_; clear hA a; intro a hA
          refine S.val hA (R.pickF rfl rfl) rfl ?_; clear hA a; intro a hA
          refine S.done ?_
          replace hA : St 93 [(1, _), (2, _), (7, _), (8, _), (9, _), (71, _)] a := hA.sub ((.cons rfl (.cons rfl (.cons rfl (.cons rfl (.cons rfl (.cons rfl .nil)))))))
          exact hJ _ _ ⟨hA.sub (.cons rfl (.cons rfl (.cons rfl (.cons rfl (.cons rfl (.cons (by first | rfl | exact congrArg (fun b => some (Value.bool b)) (by first | exact decide_eq_decide.2 (by omega) | exact or_bool (by omega) | exact and_bool (by omega) | (simp; done) | (simp [hg92, hg93, hg94]; done) | (have h80 := hg92; (try simp at h80); have h81 := hg93; (try simp at h81); have h82 := hg94; (try simp at h82); simp [h80, h81, h82]; done) | exact (decide_eq_false (fun h9 => hg92 h9.1)).symm | exact (decide_eq_false (fun h9 => hg93 h9.1)).symm | exact (decide_eq_false (fun h9 => hg94 h9.1)).symm)) .nil)))))), hM⟩
        ·
         clear hA; intro hg93 hA
         refine S.no (dj := 62) hA (by kernel_rfl) rfl rfl rfl ?_; clear hA a; intro a hA
         refine S.no (dj := 62) hA (by kernel_rfl) rfl rfl rfl ?_; clear hA a; intro a hA
         refine S.no (dj := 62) hA (by kernel_rfl) rfl rfl rfl ?_; clear hA a; intro a hA
         refine S.valg (dj := 58) hA (by kernel_rfl) rfl (R.pickF rfl rfl) rfl ?_; clear hA a; intro a hA
         refine S.valg (dj := 58) hA (by kernel_rfl) rfl (R.move rfl) rfl ?_; clear hA a; intro a hA
         refine S.no (dj := 67) hA (by kernel_rfl) rfl rfl rfl ?_; clear hA a; intro a hA
         refine S.no (dj := 67) hA (by kernel_rfl) rfl rfl rfl ?_; clear hA a; intro a hA
         refine S.valg (dj := 58) hA (by kernel_rfl) rfl (R.pickF rfl rfl) rfl ?_; clear hA a; intro a hA
         refine S.val hA (R.pickF rfl rfl) rfl ?_; clear hA a; intro a hA
         refine S.done ?_
         replace hA : St 93 [(1, _), (2, _), (7, _), (8, _), (9, _), (71, _)] a := hA.sub ((.cons rfl (.cons rfl (.cons rfl (.cons rfl (.cons rfl (.cons rfl .nil)))))))
         exact hJ _ _ ⟨hA.sub (.cons rfl (.cons rfl (.cons rfl (.cons rfl (.cons rfl (.cons (by first | rfl | exact congrArg (fun b => some (Value.bool b)) (by first | exact decide_eq_decide.2 (by omega) | exact or_bool (by omega) | exact and_bool (by omega) | (simp; done) | (simp [hg92, hg93]; done) | (have h80 := hg92; (try simp at h80); have h81 := hg93; (try simp at h81); simp [h80, h81]; done) | exact (decide_eq_false (fun h9 => hg92 h9.1)).symm | exact (decide_eq_false (fun h9 => hg93 h9.1)).symm)) .nil)))))), hM⟩
    ·
     refine Ends.region ?_
     refine S.val hA (R.move rfl) rfl ?_; clear hA a; intro a hA
     refine S.val hA (R.move rfl) rfl ?_; clear hA a; intro a hA
     refine S.val hA (R.lenS Try.underlying22 rfl rfl) rfl ?_; clear hA a; intro a hA
     refine S.val hA (R.lss rfl rfl) rfl ?_; clear hA a; intro a hA
     refine S.val hA (R.move rfl) rfl ?_; clear hA a; intro a hA
     refine hA.split (d := 41) rfl ?_ ?_
     ·
      clear hA; intro hg95 hA
      refine S.valg (dj := 41) hA (by kernel_rfl) rfl (R.fieldAddr (q := 0) fi25_0 rfl rfl rfl) rfl ?_; clear hA a; intro a hA
      refine S.valg (dj := 41) hA (by kernel_rfl) rfl (R.load sz3 rfl (hM.cell (k := 0) rfl rfl)) rfl ?_; clear hA a; intro a hA
      refine S.valg (dj := 41) hA (by kernel_rfl) rfl (R.neq rfl rfl) rfl ?_; clear hA a; intro a hA
      refine S.val hA (R.pickT rfl rfl) rfl ?_; clear hA a; intro a hA
      refine S.done ?_
      replace hA : St 93 [(1, _), (2, _), (7, _), (8, _), (9, _), (10, _), (11, _), (45, _)] a := hA.sub ((.cons rfl (.cons rfl (.cons rfl (.cons rfl (.cons rfl (.cons rfl (.cons rfl (.cons rfl .nil)))))))))
      exact hJ _ _ ⟨hA.sub (.cons rfl (.cons rfl (.cons rfl (.cons rfl (.cons rfl (.cons rfl (.cons rfl (.cons (by first | rfl | exact congrArg (fun b => some (Value.bool b)) (by first | exact decide_eq_decide.2 (by omega) | exact or_bool (by omega) | exact and_bool (by omega) | (simp; done) | (simp [hg95]; done) | (have h80 := hg95; (try simp at h80); simp [h80]; done) | exact (decide_eq_false (fun h9 => hg95 h9.1)).symm)) .nil)))))))), hM⟩
     ·
      clear hA; intro hg95 hA
      refine S.no (dj := 41) hA (by kernel_rfl) rfl rfl rfl ?_; clear hA a; intro a hA
      refine S.no (dj := 41) hA (by kernel_rfl) rfl rfl rfl ?_; clear hA a; intro a hA
      refine S.no (dj := 41) hA (by kernel_rfl) rfl rfl rfl ?_; clear hA a; intro a hA
      refine S.val hA (R.pickF rfl rfl) rfl ?_; clear hA a; intro a hA
      refine S.done ?_
      replace hA : St 93 [(1, _), (2, _), (7, _), (8, _), (9, _), (10, _), (11, _), (45, _)] a := hA.sub ((.cons rfl (.cons rfl (.cons rfl (.cons rfl (.cons rfl (.cons rfl (.cons rfl (.cons rfl .nil)))))))))
      exact hJ _ _ ⟨hA.sub (.cons rfl (.cons rfl (.cons rfl (.cons rfl (.cons rfl (.cons rfl (.cons rfl (.cons (by first | rfl | exact congrArg (fun b => some (Value.bool b)) (by first | exact decide_eq_decide.2 (by omega) | exact or_bool (by omega) | exact and_bool (by omega) | (simp; done) | (simp [hg95]; done) | (have h80 := hg95; (try simp at h80); simp [h80]; done) | exact (decide_eq_false (fun h9 => hg95 h9.1)).symm)) .nil)))))))), hM⟩
   ·
    refine Ends.exit rfl ?_
    replace hA : St 93 [(7, _)] a := hA.sub ((.cons rfl .nil))
    refine Ends.seq (Ends.region ?_)
    refine S.val hA (R.move rfl) rfl ?_; clear hA a; intro a hA
    refine S.val hA (R.assign rfl) rfl ?_; clear hA a; intro a hA
    refine S.done ?_
    refine Ends.ret1 Try.func33 Try.results33 hA rfl ?_
    exact ⟨_, rfl, best_end hF hxl hbk (by rw [hmo]; exact hc51), Mem.trans0 hbs hM.nilL⟩
set_option maxRecDepth 100000 in
set_option maxHeartbeats 400000 in
theorem best_leafc (i : Ins) (ax3 : Option Addr) (cx3 : Nat) (ax4 : Option Addr) (cx4 : Nat) (ax5 : Option Addr) (cx5 : Nat) (ay : Option Addr) (x : List Int) (cy : Nat) (hF : InF i) (hd : x.length = i.n.toNat) (w : World) (hx3 : IntSl w (.slice ax3 i.wt.length cx3) i.wt) (hx4 : IntSl w (.slice ax4 i.vl.length cx4) i.vl) (hx5 : RowsV w (.slice ax5 i.cost.length cx5) i.cost) (hy : IntSl w (.slice ay x.length cy) x) :
  Calls Try.prog 33 #[.agg #[.int .i64 i.kind, .int .i64 i.n, .int .i64 i.cap, .slice ax3 i.wt.length cx3, .slice ax4 i.vl.length cx4, .slice ax5 i.cost.length cx5], .slice ay x.length cy] w fun e w' => ∃ r, e = .returned (.int .i64 r) ∧ bestP i x r ∧ Below w.heap.size w w' := by
 have hbs := Below.refl (B := w.heap.size) w
 have f1 := hF.n1
 have f3 := hF.n64
 have hlx := hy.lenB
 have hxl := hd
 have hM := Mem.start w
 refine Calls.of_ends (vs := [.agg #[.int .i64 i.kind, .int .i64 i.n, .int .i64 i.cap, .slice ax3 i.wt.length cx3, .slice ax4 i.vl.length cx4, .slice ax5 i.cost.length cx5], .slice ay x.length cy]) Try.func33 rfl Try.ntmps33 rfl ?_
 intro a hA
 replace hA : St 93 [(0, _), (1, _)] a := hA
 refine Ends.seq (Ends.region ?_)
 refine S.box hA hM rfl rfl ?_; clear hA hM a; intro b1 w1 hb2 hM a hA
 replace hM : Mem _ _ [pt b1 #[.int .i64 i.kind, .int .i64 i.n, .int .i64 i.cap, .slice ax3 i.wt.length cx3, .slice ax4 i.vl.length cx4, .slice ax5 i.cost.length cx5] 25] _ := hM
 refine S.val hA (R.assign rfl) rfl ?_; clear hA a; intro a hA
 refine S.done ?_
 refine Ends.seq (Ends.seq (Ends.region ?_))
 refine S.val hA (R.move rfl) rfl ?_; clear hA a; intro a hA
 refine S.val hA (R.lenS Try.underlying22 rfl rfl) rfl ?_; clear hA a; intro a hA
 refine S.val hA (R.fieldAddr (q := 1) fi25_1 rfl rfl rfl) rfl ?_; clear hA a; intro a hA
 refine S.val hA (R.load sz3 rfl (hM.cell (k := 0) rfl rfl)) rfl ?_; clear hA a; intro a hA
 refine S.val hA (R.tt (R.eql rfl rfl) (by omega)) rfl ?_; clear hA a; intro a hA
 refine S.done ?_
 replace hA : St 93 [(1, _), (2, _), (17, _)] a := hA.sub ((.cons rfl (.cons rfl (.cons rfl .nil))))
 refine Ends.condT hA rfl ?_
 refine Ends.seq (Ends.region ?_)
 refine S.val hA (R.loadA sz25 rfl (hM.range (k := 0) rfl) rfl) rfl ?_; clear hA a; intro a hA
 refine S.val hA (R.move rfl) rfl ?_; clear hA a; intro a hA
 refine S.call hA (R.callF Try.func20 rfl rfl rfl) rfl (rcost08 i ax3 cx3 ax4 cx4 ax5 cx5 ay x cy _ (hx3.mem hM) (hx4.mem hM) (hx5.mem hM) (hy.mem hM)) ?_; clear hA a
 rintro e w2 ⟨rfl, hb⟩
 replace hM := hM.callB hb; clear hb
 refine ⟨.tuple #[.int .i64 ((costI i x).1), .int .i64 ((costI i x).2)], rfl, fun a hA => ?_⟩
 refine S.val hA (R.move rfl) rfl ?_; clear hA a; intro a hA
 refine S.val hA (R.extract (v := .int .i64 ((costI i x).1)) rfl rfl) rfl ?_; clear hA a; intro a hA
 refine S.val hA (R.extract (v := .int .i64 ((costI i x).2)) rfl rfl) rfl ?_; clear hA a; intro a hA
 refine S.val hA (R.assign rfl) rfl ?_; clear hA a; intro a hA
 refine S.val hA (R.assign rfl) rfl ?_; clear hA a; intro a hA
 refine S.done ?_
 replace hA : St 93 [(1, _), (2, _), (5, _), (6, _)] a := hA.sub ((.cons rfl (.cons rfl (.cons rfl (.cons rfl .nil)))))
 refine Ends.seq (Ends.seq (Ends.region ?_))
 refine S.val hA (R.move rfl) rfl ?_; clear hA a; intro a hA
 refine S.val hA (R.neq rfl rfl) rfl ?_; clear hA a; intro a hA
 refine S.done ?_
 refine Ends.ite hA rfl (fun hc3 => ?_) (fun hc3 => ?_)
 ·
  have hz0 : ¬ (costI i x).2 = 0 := hc3
  refine Ends.seq (Ends.region ?_)
  refine S.val hA (R.assign rfl) rfl ?_; clear hA a; intro a hA
  refine S.done ?_
  refine Ends.ret1 Try.func33 Try.results33 hA rfl ?_
  exact ⟨_, rfl, best_leaf1 hxl hz0, Mem.trans0 hbs hM.nilL⟩
 ·
  refine Ends.skip (Ends.seq (Ends.region ?_))
  refine S.val hA (R.move rfl) rfl ?_; clear hA a; intro a hA
  refine S.val hA (R.assign rfl) rfl ?_; clear hA a; intro a hA
  refine S.done ?_
  replace hA : St 93 [(1, _), (2, _), (4, _)] a := hA.sub ((.cons rfl (.cons rfl (.cons rfl .nil))))
  refine Ends.ret1 Try.func33 Try.results33 hA rfl ?_
  exact ⟨_, rfl, best_leaf2 hxl, Mem.trans0 hbs hM.nilL⟩
theorem best_all {i : Ins} (hF : InF i) : ∀ d, BestAt i d
  | 0 => fun ax3 cx3 ax4 cx4 ax5 cx5 ay x cy w h3 h4 h5 hy hd => best_step i ax3 cx3 ax4 cx4 ax5 cx5 ay x cy hF 0 (fun ax3 cx3 ax4 cx4 ax5 cx5 ay x cy w h3 h4 h5 hy hd => best_leafc i ax3 cx3 ax4 cx4 ax5 cx5 ay x cy hF (by omega) w h3 h4 h5 hy) hd w h3 h4 h5 hy
  | d + 1 => fun ax3 cx3 ax4 cx4 ax5 cx5 ay x cy w h3 h4 h5 hy hd => best_step i ax3 cx3 ax4 cx4 ax5 cx5 ay x cy hF (d + 1) (best_all hF d) hd w h3 h4 h5 hy
set_option maxRecDepth 100000 in
set_option maxHeartbeats 400000 in
theorem greedyStarts_w (i : Ins) (ax3 : Option Addr) (cx3 : Nat) (ax4 : Option Addr) (cx4 : Nat) (ax5 : Option Addr) (cx5 : Nat) (w : World) (hx3 : IntSl w (.slice ax3 i.wt.length cx3) i.wt) (hx4 : IntSl w (.slice ax4 i.vl.length cx4) i.vl) (hx5 : RowsV w (.slice ax5 i.cost.length cx5) i.cost) :
  Calls Try.prog 10 #[.agg #[.int .i64 i.kind, .int .i64 i.n, .int .i64 i.cap, .slice ax3 i.wt.length cx3, .slice ax4 i.vl.length cx4, .slice ax5 i.cost.length cx5]] w fun e w' => e = .returned (.bool true) ∧ Below w.heap.size w w' := by
 have hbs := Below.refl (B := w.heap.size) w
 have hM := Mem.start w
 refine Calls.of_ends (vs := [.agg #[.int .i64 i.kind, .int .i64 i.n, .int .i64 i.cap, .slice ax3 i.wt.length cx3, .slice ax4 i.vl.length cx4, .slice ax5 i.cost.length cx5]]) Try.func10 rfl Try.ntmps10 rfl ?_
 intro a hA
 replace hA : St 80 [(0, _)] a := hA
 refine Ends.seq (Ends.region ?_)
 refine S.box hA hM rfl rfl ?_; clear hA hM a; intro b1 w1 hb2 hM a hA
 replace hM : Mem _ _ [pt b1 #[.int .i64 i.kind, .int .i64 i.n, .int .i64 i.cap, .slice ax3 i.wt.length cx3, .slice ax4 i.vl.length cx4, .slice ax5 i.cost.length cx5] 25] _ := hM
 refine S.val hA (R.assign rfl) rfl ?_; clear hA a; intro a hA
 refine S.done ?_
 refine Ends.seq (Ends.region ?_)
 refine S.val hA (R.loadA sz25 rfl (hM.range (k := 0) rfl) rfl) rfl ?_; clear hA a; intro a hA
 obtain ⟨K, hK⟩ : ∃ K, K = fewI i := ⟨_, rfl⟩
 have hks := few_small i
 rw [← hK] at hks
 have hks1 := hks.1
 have hks2 := hks.2
 refine S.call hA (R.callF Try.func28 rfl rfl rfl) rfl (few10 i ax3 cx3 ax4 cx4 ax5 cx5 K hK _ (hx3.mem hM) (hx4.mem hM) (hx5.mem hM)) ?_; clear hA a
 rintro e w2 ⟨ak3, ck3, ak4, ck4, ak5, ck5, rsk, rfl, hYk, hn⟩
 replace hM : Mem _ _ [bundle (insL 3 22 K ak3 ck3 ak4 ck4 ak5 ck5 rsk), pt b1 #[.int .i64 i.kind, .int .i64 i.n, .int .i64 i.cap, .slice ax3 i.wt.length cx3, .slice ax4 i.vl.length cx4, .slice ax5 i.cost.length cx5] 25] _ := hM.call hn; clear hn
 refine ⟨.agg #[.int .i64 K.kind, .int .i64 K.n, .int .i64 K.cap, .slice ak3 K.wt.length ck3, .slice ak4 K.vl.length ck4, .slice ak5 rsk.length ck5], rfl, fun a hA => ?_⟩
 refine S.storeA (k := 1) hA hM sz25 rfl rfl rfl rfl rfl rfl ?_; clear hM
 intro w3 hM
 replace hM : Mem _ _ [bundle (insL 3 22 K ak3 ck3 ak4 ck4 ak5 ck5 rsk), pt b1 #[.int .i64 K.kind, .int .i64 K.n, .int .i64 K.cap, .slice ak3 K.wt.length ck3, .slice ak4 K.vl.length ck4, .slice ak5 rsk.length ck5] 25] _ := hM
 refine S.done ?_
 replace hA : St 80 [(1, _)] a := hA.sub ((.cons rfl .nil))
 refine Ends.seq ?_
 obtain ⟨-, hk3, hk4, hk5⟩ := insR_of hM (k := 0) rfl hYk
 have hlck : rsk.length = K.cost.length := by rw [← hYk, List.length_map]
 replace hM := hM.drop 0
 rw [hlck] at hM
 replace hM : Mem _ _ [pt b1 #[.int .i64 K.kind, .int .i64 K.n, .int .i64 K.cap, .slice ak3 K.wt.length ck3, .slice ak4 K.vl.length ck4, .slice ak5 K.cost.length ck5] 25] _ := hM
 have hbx3 := hM.block (k := 0) rfl
 have hbs := hbs.trans (hM.below.mono hbs.size)
 have hx3 := hx3.mem hM
 have hx4 := hx4.mem hM
 have hx5 := hx5.mem hM
 replace hM := Mem.start w3
 refine Ends.region ?_
 refine S.val hA (R.loadA sz25 rfl (hM.oldRange hbx3) rfl) rfl ?_; clear hA a; intro a hA
 refine S.call hA (R.callF Try.func31 rfl rfl rfl) rfl (start10 K ak3 ck3 ak4 ck4 ak5 ck5 ⟨by omega, by omega⟩ _ (hk3.mem hM) (hk4.mem hM) (hk5.mem hM)) ?_; clear hA a
 rintro e w4 ⟨ra4, rc5, rfl, rh6, hb⟩
 replace hM := hM.callB hb; clear hb
 have hbs := hbs.trans (hM.below.mono hbs.size)
 have hx3 := hx3.mem hM
 have hx4 := hx4.mem hM
 have hx5 := hx5.mem hM
 have hk3 := hk3.mem hM
 have hk4 := hk4.mem hM
 have hk5 := hk5.mem hM
 have hbx3 := hM.keepB hbx3
 replace hM := Mem.start w4
 refine ⟨.tuple #[.slice ra4 (((staI K).1).length) rc5, .int .i64 ((staI K).2.1), .int .i64 ((staI K).2.2)], rfl, fun a hA => ?_⟩
 refine S.val hA (R.move rfl) rfl ?_; clear hA a; intro a hA
 refine S.val hA (R.extract (v := .slice ra4 (((staI K).1).length) rc5) rfl rfl) rfl ?_; clear hA a; intro a hA
 refine S.val hA (R.extract (v := .int .i64 ((staI K).2.1)) rfl rfl) rfl ?_; clear hA a; intro a hA
 refine S.val hA (R.extract (v := .int .i64 ((staI K).2.2)) rfl rfl) rfl ?_; clear hA a; intro a hA
 refine S.val hA (R.assign rfl) rfl ?_; clear hA a; intro a hA
 refine S.val hA (R.assign rfl) rfl ?_; clear hA a; intro a hA
 refine S.val hA (R.assign rfl) rfl ?_; clear hA a; intro a hA
 refine S.done ?_
 replace hA : St 80 [(1, _), (3, _), (4, _), (5, _)] a := hA.sub ((.cons rfl (.cons rfl (.cons rfl (.cons rfl .nil)))))
 refine Ends.seq (Ends.region ?_)
 refine S.val hA (R.loadA sz25 rfl (hM.oldRange hbx3) rfl) rfl ?_; clear hA a; intro a hA
 refine S.call hA (R.callF Try.func25 rfl rfl rfl) rfl (rfirst10 K ak3 ck3 ak4 ck4 ak5 ck5 _ (hk3.mem hM) (hk4.mem hM) (hk5.mem hM)) ?_; clear hA a
 rintro e w5 ⟨ra7, rc8, rfl, rh9, hb⟩
 replace hM := hM.callB hb; clear hb
 have hbs := hbs.trans (hM.below.mono hbs.size)
 have hx3 := hx3.mem hM
 have hx4 := hx4.mem hM
 have hx5 := hx5.mem hM
 have hk3 := hk3.mem hM
 have hk4 := hk4.mem hM
 have hk5 := hk5.mem hM
 have rh6 := rh6.mem hM
 have hbx3 := hM.keepB hbx3
 replace hM := Mem.start w5
 refine ⟨.tuple #[.slice ra7 (((frI K)).length) rc8, .int .i64 (chk K)], rfl, fun a hA => ?_⟩
 refine S.val hA (R.move rfl) rfl ?_; clear hA a; intro a hA
 refine S.val hA (R.extract (v := .slice ra7 (((frI K)).length) rc8) rfl rfl) rfl ?_; clear hA a; intro a hA
 refine S.val hA (R.extract (v := .int .i64 (chk K)) rfl rfl) rfl ?_; clear hA a; intro a hA
 refine S.val hA (R.assign rfl) rfl ?_; clear hA a; intro a hA
 refine S.val hA (R.assign rfl) rfl ?_; clear hA a; intro a hA
 refine S.done ?_
 replace hA : St 80 [(1, _), (3, _), (4, _), (5, _), (6, _), (7, _)] a := hA.sub ((.cons rfl (.cons rfl (.cons rfl (.cons rfl (.cons rfl (.cons rfl .nil)))))))
 refine Ends.seq (Ends.seq (Ends.region ?_))
 refine S.call hA (R.callF Try.func26 rfl rfl rfl) rfl (finds_any _) ?_; clear hA a
 rintro e w6 ⟨rfl, hb⟩
 replace hM := hM.callB hb; clear hb
 refine ⟨.bool true, rfl, fun a hA => ?_⟩
 refine S.val hA (R.not rfl) rfl ?_; clear hA a; intro a hA
 refine S.val hA (R.move rfl) rfl ?_; clear hA a; intro a hA
 refine S.valg (dj := 27) hA (by kernel_rfl) rfl (R.move rfl) rfl ?_; clear hA a; intro a hA
 refine S.valg (dj := 27) hA (by kernel_rfl) rfl (R.neq rfl rfl) rfl ?_; clear hA a; intro a hA
 refine S.val hA (R.pickF rfl rfl) rfl ?_; clear hA a; intro a hA
 refine S.done ?_
 replace hA : St 80 [(1, _), (3, _), (4, _), (5, _), (6, _), (7, _), (30, _)] a := hA.sub ((.cons rfl (.cons rfl (.cons rfl (.cons rfl (.cons rfl (.cons rfl (.cons rfl .nil))))))))
 refine Ends.ite hA rfl (fun hc10 => ?_) (fun hc10 => ?_)
 ·
  have hz : ¬ chk K = 0 := hc10
  have hs0 := staI_no hz
  refine Ends.seq (Ends.region ?_)
  refine S.call hA (R.callF Try.func26 rfl rfl rfl) rfl (finds_any _) ?_; clear hA a
  rintro e w7 ⟨rfl, hb⟩
  replace hM := hM.callB hb; clear hb
  refine ⟨.bool true, rfl, fun a hA => ?_⟩
  refine S.val hA (R.move rfl) rfl ?_; clear hA a; intro a hA
  refine S.valg (dj := 32) hA (by kernel_rfl) rfl (R.move rfl) rfl ?_; clear hA a; intro a hA
  refine S.valg (dj := 32) hA (by kernel_rfl) rfl (R.move rfl) rfl ?_; clear hA a; intro a hA
  refine S.valg (dj := 32) hA (by kernel_rfl) rfl (R.tt (R.eql rfl rfl) (by rw [hs0])) rfl ?_; clear hA a; intro a hA
  refine S.val hA (R.pickT rfl rfl) rfl ?_; clear hA a; intro a hA
  refine S.val hA (R.move rfl) rfl ?_; clear hA a; intro a hA
  refine S.valg (dj := 37) hA (by kernel_rfl) rfl (R.move rfl) rfl ?_; clear hA a; intro a hA
  refine S.valg (dj := 37) hA (by kernel_rfl) rfl (R.lenS Try.underlying22 rfl rfl) rfl ?_; clear hA a; intro a hA
  refine S.valg (dj := 37) hA (by kernel_rfl) rfl (R.tt (R.eql rfl rfl) (by rw [hs0]; rfl)) rfl ?_; clear hA a; intro a hA
  refine S.val hA (R.pickT rfl rfl) rfl ?_; clear hA a; intro a hA
  refine S.val hA (R.move rfl) rfl ?_; clear hA a; intro a hA
  refine S.valg (dj := 42) hA (by kernel_rfl) rfl (R.move rfl) rfl ?_; clear hA a; intro a hA
  refine S.valg (dj := 42) hA (by kernel_rfl) rfl (R.tt (R.eql rfl rfl) (by rw [hs0])) rfl ?_; clear hA a; intro a hA
  refine S.val hA (R.pickT rfl rfl) rfl ?_; clear hA a; intro a hA
  refine S.val hA (R.assign rfl) rfl ?_; clear hA a; intro a hA
  refine S.done ?_
  replace hA : St 80 [(1, _), (2, _), (3, _), (4, _), (5, _), (6, _)] a := hA.sub ((.cons rfl (.cons rfl (.cons rfl (.cons rfl (.cons rfl (.cons rfl .nil)))))))
  refine Ends.ret1 Try.func10 Try.results10 hA rfl ?_
  exact ⟨rfl, Mem.trans0 hbs hM.nilL⟩
 ·
  have hz : chk K = 0 := Decidable.not_not.1 hc10
  have hs0 := staI_yes hz
  have hF := chk_inF hz
  have hfc := frI_cost hz
  have hbc := bet_cost hfc
  have hse : (staI K).1 = betI K (frI K) := by rw [hs0]
  refine Ends.skip (Ends.seq (Ends.region ?_))
  refine S.val hA (R.loadA sz25 rfl (hM.oldRange hbx3) rfl) rfl ?_; clear hA a; intro a hA
  refine S.val hA (R.move rfl) rfl ?_; clear hA a; intro a hA
  refine S.call hA (R.callF Try.func30 rfl rfl rfl) rfl (rbetter10 K ak3 ck3 ak4 ck4 ak5 ck5 ra7 ((frI K)) rc8 _ (hk3.mem hM) (hk4.mem hM) (hk5.mem hM) (rh9.mem hM)) ?_; clear hA a
  rintro e w8 ⟨ra11, rc12, rfl, rh13, hb⟩
  replace hM := hM.callB hb; clear hb
  have hbs := hbs.trans (hM.below.mono hbs.size)
  have hx3 := hx3.mem hM
  have hx4 := hx4.mem hM
  have hx5 := hx5.mem hM
  have hk3 := hk3.mem hM
  have hk4 := hk4.mem hM
  have hk5 := hk5.mem hM
  have rh6 := rh6.mem hM
  have rh9 := rh9.mem hM
  have hbx3 := hM.keepB hbx3
  replace hM := Mem.start w8
  refine ⟨.tuple #[.slice ra11 (((betI K ((frI K)))).length) rc12, .int .i64 ((costI K ((frI K))).2)], rfl, fun a hA => ?_⟩
  refine S.val hA (R.move rfl) rfl ?_; clear hA a; intro a hA
  refine S.val hA (R.extract (v := .slice ra11 (((betI K ((frI K)))).length) rc12) rfl rfl) rfl ?_; clear hA a; intro a hA
  refine S.val hA (R.extract (v := .int .i64 ((costI K ((frI K))).2)) rfl rfl) rfl ?_; clear hA a; intro a hA
  refine S.val hA (R.assign rfl) rfl ?_; clear hA a; intro a hA
  refine S.val hA (R.assign rfl) rfl ?_; clear hA a; intro a hA
  refine S.done ?_
  replace hA : St 80 [(1, _), (3, _), (4, _), (5, _), (8, _)] a := hA.sub ((.cons rfl (.cons rfl (.cons rfl (.cons rfl (.cons rfl .nil))))))
  refine Ends.seq (Ends.region ?_)
  refine S.val hA (R.loadA sz25 rfl (hM.oldRange hbx3) rfl) rfl ?_; clear hA a; intro a hA
  refine S.val hA (R.move rfl) rfl ?_; clear hA a; intro a hA
  refine S.call hA (R.callF Try.func20 rfl rfl rfl) rfl (rcost08 K ak3 ck3 ak4 ck4 ak5 ck5 ra11 ((betI K ((frI K)))) rc12 _ (hk3.mem hM) (hk4.mem hM) (hk5.mem hM) (rh13.mem hM)) ?_; clear hA a
  rintro e w9 ⟨rfl, hb⟩
  replace hM := hM.callB hb; clear hb
  refine ⟨.tuple #[.int .i64 ((costI K ((betI K ((frI K))))).1), .int .i64 ((costI K ((betI K ((frI K))))).2)], rfl, fun a hA => ?_⟩
  refine S.val hA (R.move rfl) rfl ?_; clear hA a; intro a hA
  refine S.val hA (R.extract (v := .int .i64 ((costI K ((betI K ((frI K))))).1)) rfl rfl) rfl ?_; clear hA a; intro a hA
  refine S.val hA (R.extract (v := .int .i64 ((costI K ((betI K ((frI K))))).2)) rfl rfl) rfl ?_; clear hA a; intro a hA
  refine S.val hA (R.assign rfl) rfl ?_; clear hA a; intro a hA
  refine S.val hA (R.assign rfl) rfl ?_; clear hA a; intro a hA
  refine S.done ?_
  replace hA : St 80 [(1, _), (3, _), (4, _), (5, _), (8, _), (10, _)] a := hA.sub ((.cons rfl (.cons rfl (.cons rfl (.cons rfl (.cons rfl (.cons rfl .nil)))))))
  refine Ends.seq (Ends.seq (Ends.region ?_))
  refine S.val hA (R.move rfl) rfl ?_; clear hA a; intro a hA
  refine S.val hA (R.ff (R.neq rfl rfl) (by rw [hs0]; exact not_not_intro rfl)) rfl ?_; clear hA a; intro a hA
  refine S.val hA (R.move rfl) rfl ?_; clear hA a; intro a hA
  refine S.valg (dj := 60) hA (by kernel_rfl) rfl (R.move rfl) rfl ?_; clear hA a; intro a hA
  refine S.valg (dj := 60) hA (by kernel_rfl) rfl (R.move rfl) rfl ?_; clear hA a; intro a hA
  refine S.callg (dj := 60) hA (by kernel_rfl) rfl (R.callF Try.func27 rfl rfl rfl) rfl ((by have h9 := (rh13.mem hM); rw [← hse] at h9 ⊢; exact same09_u ra4 ((staI K).1) rc5 ra11 rc12 (rh6.mem hM).lenB _ (rh6.mem hM) h9)) ?_; clear hA a
  rintro e w10 ⟨rfl, hb⟩
  replace hM := hM.callB hb; clear hb
  refine ⟨.bool true, rfl, fun a hA => ?_⟩
  refine S.valg (dj := 60) hA (by kernel_rfl) rfl (R.not rfl) rfl ?_; clear hA a; intro a hA
  refine S.val hA (R.pickF rfl rfl) rfl ?_; clear hA a; intro a hA
  refine S.val hA (R.move rfl) rfl ?_; clear hA a; intro a hA
  refine S.valg (dj := 66) hA (by kernel_rfl) rfl (R.move rfl) rfl ?_; clear hA a; intro a hA
  refine S.valg (dj := 66) hA (by kernel_rfl) rfl (R.move rfl) rfl ?_; clear hA a; intro a hA
  refine S.valg (dj := 66) hA (by kernel_rfl) rfl (R.ff (R.neq rfl rfl) (by rw [hs0]; exact not_not_intro rfl)) rfl ?_; clear hA a; intro a hA
  refine S.val hA (R.pickF rfl rfl) rfl ?_; clear hA a; intro a hA
  refine S.done ?_
  replace hA : St 80 [(1, _), (4, _), (70, _)] a := hA.sub ((.cons rfl (.cons rfl (.cons rfl .nil))))
  refine Ends.condF hA rfl ?_
  refine Ends.skip (Ends.seq ?_)
  by_cases hs14 : smlP K
  ·
   refine Ends.region ?_
   refine S.val hA (R.loadA sz25 rfl (hM.oldRange hbx3) rfl) rfl ?_; clear hA a; intro a hA
   refine S.call hA (R.callF Try.func32 rfl rfl rfl) rfl ((by have h9 := small08 K ak3 ck3 ak4 ck4 ak5 ck5 _ (hk3.mem hM) (hk4.mem hM) (hk5.mem hM); rw [decide_eq_true hs14] at h9; exact h9)) ?_; clear hA a
   rintro e w11 ⟨rfl, hb⟩
   replace hM := hM.callB hb; clear hb
   refine ⟨.bool true, rfl, fun a hA => ?_⟩
   refine S.val hA (R.not rfl) rfl ?_; clear hA a; intro a hA
   refine S.val hA (R.move rfl) rfl ?_; clear hA a; intro a hA
   refine S.valg (dj := 74) hA (by kernel_rfl) rfl (R.move rfl) rfl ?_; clear hA a; intro a hA
   refine S.valg (dj := 74) hA (by kernel_rfl) rfl (R.loadA sz25 rfl (hM.oldRange hbx3) rfl) rfl ?_; clear hA a; intro a hA
   refine S.callg (dj := 74) hA (by kernel_rfl) rfl (R.callF Try.func33 rfl rfl rfl) rfl (best_all hF K.n.toNat ak3 ck3 ak4 ck4 ak5 ck5 none [] 0 _ (hk3.mem hM) (hk4.mem hM) (hk5.mem hM) (IntSl.nil _) (by simp)) ?_; clear hA a
   rintro e w12 ⟨bv, rfl, hbv, hb⟩
   replace hM := hM.callB hb; clear hb
   have hbv1 := hbv.2.2 (betI K (frI K)) ⟨hbc.2.2, rfl, hbc.1⟩
   refine ⟨.int .i64 bv, rfl, fun a hA => ?_⟩
   refine S.valg (dj := 74) hA (by kernel_rfl) rfl (R.tt (R.geq rfl rfl) (by rw [hs0]; exact hbv1.2)) rfl ?_; clear hA a; intro a hA
   refine S.val hA (R.pickF rfl rfl) rfl ?_; clear hA a; intro a hA
   refine S.val hA (R.assign rfl) rfl ?_; clear hA a; intro a hA
   refine S.done ?_
   replace hA : St 80 [(2, _)] a := hA.sub ((.cons rfl .nil))
   refine Ends.ret1 Try.func10 Try.results10 hA rfl ?_
   exact ⟨rfl, Mem.trans0 hbs hM.nilL⟩
  ·
   refine Ends.region ?_
   refine S.val hA (R.loadA sz25 rfl (hM.oldRange hbx3) rfl) rfl ?_; clear hA a; intro a hA
   refine S.call hA (R.callF Try.func32 rfl rfl rfl) rfl ((by have h9 := small08 K ak3 ck3 ak4 ck4 ak5 ck5 _ (hk3.mem hM) (hk4.mem hM) (hk5.mem hM); rw [decide_eq_false hs14] at h9; exact h9)) ?_; clear hA a
   rintro e w13 ⟨rfl, hb⟩
   replace hM := hM.callB hb; clear hb
   refine ⟨.bool false, rfl, fun a hA => ?_⟩
   refine S.val hA (R.not rfl) rfl ?_; clear hA a; intro a hA
   refine S.val hA (R.move rfl) rfl ?_; clear hA a; intro a hA
   refine S.no (dj := 74) hA (by kernel_rfl) rfl rfl rfl ?_; clear hA a; intro a hA
   refine S.no (dj := 74) hA (by kernel_rfl) rfl rfl rfl ?_; clear hA a; intro a hA
   refine S.no (dj := 74) hA (by kernel_rfl) rfl rfl rfl ?_; clear hA a; intro a hA
   refine S.no (dj := 74) hA (by kernel_rfl) rfl rfl rfl ?_; clear hA a; intro a hA
   refine S.val hA (R.pickT rfl rfl) rfl ?_; clear hA a; intro a hA
   refine S.val hA (R.assign rfl) rfl ?_; clear hA a; intro a hA
   refine S.done ?_
   replace hA : St 80 [(2, _)] a := hA.sub ((.cons rfl .nil))
   refine Ends.ret1 Try.func10 Try.results10 hA rfl ?_
   exact ⟨rfl, Mem.trans0 hbs hM.nilL⟩
theorem greedyStarts_any (v : Value) (i : Ins) (w : World) (h1 : InsV w v i) (_h2 : wfI i) :
    Calls Try.prog 10 #[v] w fun e w' => e = .returned (.bool true) ∧ Below w.heap.size w w' := by
  obtain ⟨aw, cw, av, cv, ac, cc, rfl, h3, h4, h5⟩ := h1.parts
  exact greedyStarts_w i aw cw av cv ac cc w h3 h4 h5
end Go.Proofs.Ytnikajkklocncaa
