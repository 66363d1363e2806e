/-
  ValueTurns, part 3 of 3: what the code computes, and plain laws; no condition beside those that each theorem tells.
-/
import Derived.Test.YtnikajkklocncaaValueTurnsB
import Derived.OpenShut
import Derived.ProofKit
namespace Go.Proofs.Ytnikajkklocncaa
open Go.RowKit
theorem chk_ok {i : Ins} (h : sizeE i = 0 ∧ shapeOK i ∧ numsE i = 0) : chk i = 0 := by unfold chk; rw [if_neg (not_not_intro h.1), if_pos h.2.1, h.2.2]
theorem chk_mat {i : Ins} (hF : InF i) (hk : i.kind ≠ 1) {g : Nat → Nat → Int} (hg : ∀ r c, ∃ r' c', g r c = cel i r' c') (hd : i.kind = 3 → ∀ r, g r r = 0) : chk { i with cost := mat i.n.toNat g } = 0 := by
  have h1 := hF.n1
  have h24 := hF.n24 hk
  have fw := hF.wt
  have fv := hF.vl
  rw [if_neg hk] at fw fv
  have hkk := hF.kind
  obtain ⟨n, hn⟩ : ∃ n : Nat, i.n = (n : Int) := ⟨i.n.toNat, by omega⟩
  have hnt : i.n.toNat = n := by omega
  have hc := hF.cap0 hk
  have e : ({ i with cost := mat i.n.toNat g } : Ins) = ⟨i.kind, n, 0, [], [], mat n g⟩ := Ins.ext rfl hn hc (List.length_eq_zero_iff.1 fw) (List.length_eq_zero_iff.1 fv) (by rw [hnt])
  rw [e]
  refine chk_ok (form_mat (by omega) (by omega) (by omega) (fun r c _ _ => ?_) (fun h r _ => hd h r))
  obtain ⟨r', c', e'⟩ := hg r c
  rw [e']
  exact hF.cell r' c'
theorem cost_ord {i : Ins} {x : List Int} (h : (costI i x).2 = 0) (hk : ¬ i.kind = 1) : ordP i x := by
  have hz := costI_chk h
  refine Decidable.byContradiction fun g => ?_
  rw [costI_or hz hk, if_pos g] at h
  cases h
theorem rev_law {i : Ins} {x : List Int} (hk : i.kind = 2) (h0 : (costI i x).2 = 0) : costI (revI i) (revX x i.n.toNat) = ((costI i x).1, 0) := by
  have hz := costI_chk h0
  have hk1 : ¬ i.kind = 1 := by omega
  have hF := chk_inF hz
  have ho := cost_ord h0 hk1
  have e1 : costI i x = (sumF (stp i x) i.n.toNat, 0) := by rw [costI_or hz hk1, if_neg (not_not_intro ho)]
  have hz' : chk (revI i) = 0 := chk_mat hF hk1 (fun r c => ⟨_, _, rfl⟩) (fun h => absurd h (by omega))
  have ho' : ordP (revI i) (revX x i.n.toNat) := ⟨revX_perm ho.1, fun h => absurd (show i.kind = 3 from h) (by omega)⟩
  rw [costI_or hz' hk1, if_neg (not_not_intro ho'), e1]
  exact Prod.ext (rev_cost hk ho.1) rfl
theorem sym_law {i : Ins} {x : List Int} (hk : i.kind = 3) (h0 : (costI i x).2 = 0) : costI (symI i) (turX x i.n.toNat) = ((costI (symI i) x).1, 0) := by
  have hz := costI_chk h0
  have hk1 : ¬ i.kind = 1 := by omega
  have hF := chk_inF hz
  have hn := hF.n1
  have ho := cost_ord h0 hk1
  have hz' : chk (symI i) = 0 := chk_mat hF hk1 (fun r c => ⟨_, _, rfl⟩) (fun h r => by rw [Nat.min_self, Nat.max_self]; exact hF.diag h r)
  have ho1 : ordP (symI i) x := ho
  have ho2 : ordP (symI i) (turX x i.n.toNat) := ⟨turX_perm ho.1 (by omega) (ho.2 hk), fun _ => rfl⟩
  rw [costI_or hz' hk1, costI_or hz' hk1, if_neg (not_not_intro ho1), if_neg (not_not_intro ho2)]
  exact Prod.ext (tur_cost hk (by omega) ho.1 (ho.2 hk)) rfl
theorem closeSameV {w0 w : World} {F : Nat → Prop} {L : List Ck} {α : Type} {f : α → Ck} {xs : List α} {x : α} {j : Nat} (h : Mem w0 F (f x :: bundle ((xs.eraseIdx j).map f) :: L) w) (hx : xs[j]? = some x) : Mem w0 F (bundle (xs.map f) :: L) w := by
  have h1 := h.closeB hx
  obtain ⟨hj, rfl⟩ := List.getElem?_eq_some_iff.1 hx
  rwa [List.set_getElem_self] at h1
set_option maxRecDepth 100000 in
set_option maxHeartbeats 400000 in
theorem valueTurns_2 (i : Ins) (ax3 : Option Addr) (cx3 : Nat) (ax4 : Option Addr) (cx4 : Nat) (ax5 : Option Addr) (cx5 : Nat) (ay : Option Addr) (x : List Int) (cy : Nat) (hk3 : ¬ i.kind = 3) (w : World) (hx3 : IntSl w (.slice ax3 i.wt.length cx3) i.wt) (hx4 : IntSl w (.slice ax4 i.vl.length cx4) i.vl) (hx5 : RowsV w (.slice ax5 i.cost.length cx5) i.cost) (hy : IntSl w (.slice ay x.length cy) x) :
  Calls Try.prog 4 #[.agg #[.int .i64 i.kind, .int .i64 i.n, .int .i64 i.cap, .slice ax3 i.wt.length cx3, .slice ax4 i.vl.length cx4, .slice ax5 i.cost.length cx5], .slice ay x.length cy] w fun e w' => e = .returned (.bool true) ∧ Below w.heap.size w w' := by
 have hbs := Below.refl (B := w.heap.size) w
 have hM := Mem.start w
 refine Calls.of_ends (vs := [.agg #[.int .i64 i.kind, .int .i64 i.n, .int .i64 i.cap, .slice ax3 i.wt.length cx3, .slice ax4 i.vl.length cx4, .slice ax5 i.cost.length cx5], .slice ay x.length cy]) Try.func4 rfl Try.ntmps4 rfl ?_
 intro a hA
 replace hA : St 158 [(0, _), (1, _)] a := hA
 refine Ends.seq (Ends.region ?_)
 refine S.box hA hM rfl rfl ?_; clear hA hM a; intro b1 w1 hb2 hM a hA
 replace hM : Mem _ _ [pt b1 #[.int .i64 i.kind, .int .i64 i.n, .int .i64 i.cap, .slice ax3 i.wt.length cx3, .slice ax4 i.vl.length cx4, .slice ax5 i.cost.length cx5] 25] _ := hM
 refine S.val hA (R.assign rfl) rfl ?_; clear hA a; intro a hA
 refine S.done ?_
 refine Ends.seq (Ends.region ?_)
 refine S.val hA (R.loadA sz25 rfl (hM.range (k := 0) rfl) rfl) rfl ?_; clear hA a; intro a hA
 obtain ⟨G, hGy⟩ : ∃ G, G = cutI i := ⟨_, rfl⟩
 have hsmy : smallI G := by rw [hGy]; exact cutI_small _
 have hscy := cutI_of_small hsmy
 have hsy1 := hsmy.1
 have hsy2 := hsmy.2.1
 have hsy3 := hsmy.2.2.1
 refine S.call hA (R.callF Try.func13 rfl rfl rfl) rfl (copyG i ax3 cx3 ax4 cx4 ax5 cx5 G hGy _ (hx3.mem hM) (hx4.mem hM) (hx5.mem hM)) ?_; clear hA a
 rintro e w2 ⟨ay3, cy3, ay4, cy4, ay5, cy5, rsy, rfl, hYy, hn⟩
 replace hM : Mem _ _ [bundle (insL 3 22 G ay3 cy3 ay4 cy4 ay5 cy5 rsy), pt b1 #[.int .i64 i.kind, .int .i64 i.n, .int .i64 i.cap, .slice ax3 i.wt.length cx3, .slice ax4 i.vl.length cx4, .slice ax5 i.cost.length cx5] 25] _ := hM.call hn; clear hn
 refine ⟨.agg #[.int .i64 G.kind, .int .i64 G.n, .int .i64 G.cap, .slice ay3 G.wt.length cy3, .slice ay4 G.vl.length cy4, .slice ay5 rsy.length cy5], rfl, fun a hA => ?_⟩
 refine S.storeA (k := 1) hA hM sz25 rfl rfl rfl rfl rfl rfl ?_; clear hM
 intro w3 hM
 replace hM : Mem _ _ [bundle (insL 3 22 G ay3 cy3 ay4 cy4 ay5 cy5 rsy), pt b1 #[.int .i64 G.kind, .int .i64 G.n, .int .i64 G.cap, .slice ay3 G.wt.length cy3, .slice ay4 G.vl.length cy4, .slice ay5 rsy.length cy5] 25] _ := hM
 refine S.done ?_
 replace hA : St 158 [(1, _), (2, _)] a := hA.sub ((.cons rfl (.cons rfl .nil)))
 refine Ends.seq ?_
 obtain ⟨-, hy3, hy4, hy5⟩ := insR_of hM (k := 0) rfl hYy
 have hlcy : rsy.length = G.cost.length := by rw [← hYy, List.length_map]
 replace hM := hM.drop 0
 rw [hlcy] at hM
 replace hM : Mem _ _ [pt b1 #[.int .i64 G.kind, .int .i64 G.n, .int .i64 G.cap, .slice ay3 G.wt.length cy3, .slice ay4 G.vl.length cy4, .slice ay5 G.cost.length cy5] 25] _ := hM
 have hbx3 := hM.block (k := 0) rfl
 have hbs := hbs.trans (hM.below.mono hbs.size)
 have hx3 := hx3.mem hM
 have hx4 := hx4.mem hM
 have hx5 := hx5.mem hM
 have hy := hy.mem hM
 replace hM := Mem.start w3
 refine Ends.region ?_
 refine S.buildSl0 hA hM Try.underlying22 info3 rfl ?_; clear hA hM a; intro b4 w4 hb5 hM a hA
 replace hM := hM.ownPt (cap := 0) (n := 0) (sz := 1) (xs := []) rfl (Nat.zero_le _) (Nat.le_refl _) rfl
 replace hM : Mem _ _ [own 3 1 (.slice ((some ⟨b4, 0, none⟩)) 0 0) 0 ((([] : List Int)).map (Value.int .i64))] _ := hM
 refine S.val hA (R.move rfl) rfl ?_; clear hA a; intro a hA
 refine S.val hA (R.move rfl) rfl ?_; clear hA a; intro a hA
 refine S.val hA (R.lenS Try.underlying22 rfl rfl) rfl ?_; clear hA a; intro a hA
 refine S.val hA (R.min rfl rfl) rfl ?_; clear hA a; intro a hA
 have hsl6 := hy.cutR ((min ((x.length : Int)) 70).toNat) (by omega)
 refine S.val hA (R.sliceHI (h := (min ((x.length : Int)) 70).toNat) hy Try.underlying22 info3 rfl rfl (by omega) (by omega)) rfl ?_; clear hA a; intro a hA
 refine S.appendI (k := 0) hA hM rfl (hsl6.mem hM) Try.underlying22 info3 rfl rfl rfl rfl rfl rfl (by first | (show (0 + _) * 8 ≤ (140737488355328 : Nat); omega) | (show (_ + 1) * 8 ≤ (140737488355328 : Nat); omega) | (rw [take_min70, List.length_take]; unfold maxLen; omega) | (rw [take_min70, List.length_take]; show (0 + _) * 8 ≤ (140737488355328 : Nat); omega) | omega | (unfold maxLen; omega)) (by first | (show (0 + _) * 8 ≤ (140737488355328 : Nat); omega) | (show (_ + 1) * 8 ≤ (140737488355328 : Nat); omega) | (rw [take_min70, List.length_take]; unfold maxLen; omega) | (rw [take_min70, List.length_take]; show (0 + _) * 8 ≤ (140737488355328 : Nat); omega) | omega | (unfold maxLen; omega)) rfl ?_; clear hA hM a; intro a7 c8 w5 hM a hA
 have hl9 : 0 + ((x.take ((min ((x.length : Int)) 70).toNat))).length = (((x.take ((min ((x.length : Int)) 70).toNat)))).length := by first | (simp; done) | simp only [List.length_append]
 rw [hl9, show (([] : List Int)).map (Value.int .i64) ++ ((x.take ((min ((x.length : Int)) 70).toNat))).map (Value.int .i64) = (((x.take ((min ((x.length : Int)) 70).toNat)))).map (Value.int .i64) by simp] at hM; rw [hl9] at hA; clear hl9
 replace hM : Mem _ _ [own 3 1 (.slice a7 ((((x.take ((min ((x.length : Int)) 70).toNat)))).length) c8) ((((x.take ((min ((x.length : Int)) 70).toNat)))).length) ((((x.take ((min ((x.length : Int)) 70).toNat)))).map (Value.int .i64))] _ := hM
 refine S.val hA (R.assign rfl) rfl ?_; clear hA a; intro a hA
 refine S.done ?_
 obtain ⟨Y, hY⟩ : ∃ Y, Y = x.take 70 := ⟨_, rfl⟩
 rw [take_min70, ← hY] at hM hA
 have hxr := hM.rsl (k := 0) (X := Y) rfl
 replace hM := hM.drop 0
 replace hM : Mem _ _ [] _ := hM
 have hbs := hbs.trans (hM.below.mono hbs.size)
 have hx3 := hx3.mem hM
 have hx4 := hx4.mem hM
 have hx5 := hx5.mem hM
 have hy := hy.mem hM
 have hy3 := hy3.mem hM
 have hy4 := hy4.mem hM
 have hy5 := hy5.mem hM
 have hsl6 := hsl6.mem hM
 have hbx3 := hM.keepB hbx3
 replace hM := Mem.start w5
 have hcb := cost_bd G Y
 have hcl := (by rw [hY, List.length_take]; omega : Y.length ≤ 70)
 replace hA : St 158 [(1, _), (2, _)] a := hA.sub ((.cons rfl (.cons rfl .nil)))
 refine Ends.seq (Ends.region ?_)
 refine S.val hA (R.loadA sz25 rfl (hM.oldRange hbx3) rfl) rfl ?_; clear hA a; intro a hA
 refine S.val hA (R.move rfl) rfl ?_; clear hA a; intro a hA
 refine S.call hA (R.callF Try.func17 rfl rfl rfl) rfl (cost08 G ay3 cy3 ay4 cy4 ay5 cy5 a7 Y c8 ⟨by omega, by omega⟩ _ (hy3.mem hM) (hy4.mem hM) (hy5.mem hM) (hxr.mem hM)) ?_; clear hA a
 rintro e w6 ⟨rfl, hb⟩
 replace hM := hM.callB hb; clear hb
 refine ⟨.tuple #[.int .i64 ((costI G Y).1), .int .i64 ((costI G Y).2)], rfl, fun a hA => ?_⟩
 refine S.val hA (R.move rfl) rfl ?_; clear hA a; intro a hA
 refine S.val hA (R.extract (v := .int .i64 ((costI G Y).1)) rfl rfl) rfl ?_; clear hA a; intro a hA
 refine S.val hA (R.extract (v := .int .i64 ((costI G Y).2)) rfl rfl) rfl ?_; clear hA a; intro a hA
 refine S.val hA (R.assign rfl) rfl ?_; clear hA a; intro a hA
 refine S.val hA (R.assign rfl) rfl ?_; clear hA a; intro a hA
 refine S.done ?_
 replace hA : St 158 [(1, _), (2, _), (5, _), (6, _)] a := hA.sub ((.cons rfl (.cons rfl (.cons rfl (.cons rfl .nil)))))
 refine Ends.seq (Ends.seq ?_)
 refine Ends.cut (fun (a : Act) (wv : World) => St 158 [(1, .slice a7 Y.length c8), (2, .pointer (some ⟨b1, 0, none⟩)), (5, .int .i64 ((costI G Y).1)), (43, .bool (decide ((((costI G Y).2) ≠ 0 ∨ G.kind = 1))))] a ∧ Mem w5 nof [] wv) ?_ (fun k2 hJ => ?_)
 ·
  clear hA hM a; rintro a w7 ⟨hA, hM⟩
  refine Ends.ite hA rfl (fun hc10 => ?_) (fun hc10 => ?_)
  ·
   refine Ends.seq (Ends.region ?_)
   refine S.call hA (R.callF Try.func16 rfl rfl rfl) rfl (values_any _) ?_; clear hA a
   rintro e w8 ⟨rfl, hb⟩
   replace hM := hM.callB hb; clear hb
   refine ⟨.bool true, rfl, fun a hA => ?_⟩
   refine S.val hA (R.assign rfl) rfl ?_; clear hA a; intro a hA
   refine S.done ?_
   refine Ends.ret1 Try.func4 Try.results4 hA rfl ?_
   exact ⟨rfl, Mem.trans0 hbs hM.nilL⟩
  ·
   have hz0 : (costI G Y).2 = 0 := by omega
   have hGk : G.kind = i.kind := by rw [hGy]; rfl
   have hkd := (chk_inF (costI_chk hz0)).kind
   have hk2 : G.kind = 2 := by omega
   have hzz := costI_chk hz0
   have hF := chk_inF hzz
   have hn1 := hF.n1
   have hn24 := hF.n24 (by omega)
   have f7 := hF.cost
   have hrw := hF.row
   have ho := cost_ord hz0 (by omega)
   obtain ⟨n, hnn⟩ : ∃ n : Nat, G.n = (n : Int) := ⟨G.n.toNat, by omega⟩
   have hnt : G.n.toNat = n := by omega
   rw [if_neg (by omega), hnt] at f7
   rw [hnt] at hrw
   have hYl : Y.length = n := by have := ho.1.1; omega
   have hcm := cost_mat hF (show G.kind ≠ 1 by omega)
   rw [hnt] at hcm
   refine Ends.skip (Ends.seq (Ends.seq (Ends.region ?_)))
   refine S.val hA (R.fieldAddr (q := 0) fi25_0 rfl rfl rfl) rfl ?_; clear hA a; intro a hA
   refine S.val hA (R.load sz3 rfl (hM.cellB hbx3 rfl)) rfl ?_; clear hA a; intro a hA
   refine S.val hA (R.eql rfl rfl) rfl ?_; clear hA a; intro a hA
   refine S.done ?_
   refine Ends.ite hA rfl (fun hc11 => ?_) (fun hc11 => ?_)
   ·
    refine Ends.seq (Ends.region ?_)
    refine S.val hA (R.loadA sz25 rfl (hM.oldRange hbx3) rfl) rfl ?_; clear hA a; intro a hA
    refine S.call hA (R.callF Try.func13 rfl rfl rfl) rfl (copyG G ay3 cy3 ay4 cy4 ay5 cy5 G hscy.symm _ (hy3.mem hM) (hy4.mem hM) (hy5.mem hM)) ?_; clear hA a
    rintro e w9 ⟨az3, cz3, az4, cz4, az5, cz5, rsz, rfl, hYz, hn⟩
    replace hM : Mem _ _ [bundle (insL 3 22 G az3 cz3 az4 cz4 az5 cz5 rsz)] _ := hM.call hn; clear hn
    refine ⟨.agg #[.int .i64 G.kind, .int .i64 G.n, .int .i64 G.cap, .slice az3 G.wt.length cz3, .slice az4 G.vl.length cz4, .slice az5 rsz.length cz5], rfl, fun a hA => ?_⟩
    refine S.alloc hA hM info25 rfl rfl ?_; clear hA hM a; intro b12 w10 hb13 hM a hA
    replace hM : Mem _ _ [pt b12 cz0 25, bundle (insL 3 22 G az3 cz3 az4 cz4 az5 cz5 rsz)] _ := hM
    refine S.storeA (k := 0) hA hM sz25 rfl rfl rfl rfl rfl rfl ?_; clear hM
    intro w11 hM
    replace hM : Mem _ _ [pt b12 #[.int .i64 G.kind, .int .i64 G.n, .int .i64 G.cap, .slice az3 G.wt.length cz3, .slice az4 G.vl.length cz4, .slice az5 rsz.length cz5] 25, bundle (insL 3 22 G az3 cz3 az4 cz4 az5 cz5 rsz)] _ := hM
    refine S.done ?_
    replace hA : St 158 [(1, _), (2, _), (5, _), (7, _)] a := hA.sub ((.cons rfl (.cons rfl (.cons rfl (.cons rfl .nil)))))
    refine Ends.seq (Ends.region ?_)
    refine S.buildSl0 hA hM Try.underlying22 info3 rfl ?_; clear hA hM a; intro b14 w12 hb15 hM a hA
    replace hM := hM.ownPt (cap := 0) (n := 0) (sz := 1) (xs := []) rfl (Nat.zero_le _) (Nat.le_refl _) rfl
    replace hM : Mem _ _ [own 3 1 (.slice ((some ⟨b14, 0, none⟩)) 0 0) 0 ((([] : List Int)).map (Value.int .i64)), pt b12 #[.int .i64 G.kind, .int .i64 G.n, .int .i64 G.cap, .slice az3 G.wt.length cz3, .slice az4 G.vl.length cz4, .slice az5 rsz.length cz5] 25, bundle (insL 3 22 G az3 cz3 az4 cz4 az5 cz5 rsz)] _ := hM
    refine S.val hA (R.move rfl) rfl ?_; clear hA a; intro a hA
    refine S.appendI (k := 0) hA hM rfl (hxr.mem hM) Try.underlying22 info3 rfl rfl rfl rfl rfl rfl (by first | (show (0 + _) * 8 ≤ (140737488355328 : Nat); omega) | (show (_ + 1) * 8 ≤ (140737488355328 : Nat); omega) | (rw [take_min70, List.length_take]; unfold maxLen; omega) | (rw [take_min70, List.length_take]; show (0 + _) * 8 ≤ (140737488355328 : Nat); omega) | omega | (unfold maxLen; omega)) (by first | (show (0 + _) * 8 ≤ (140737488355328 : Nat); omega) | (show (_ + 1) * 8 ≤ (140737488355328 : Nat); omega) | (rw [take_min70, List.length_take]; unfold maxLen; omega) | (rw [take_min70, List.length_take]; show (0 + _) * 8 ≤ (140737488355328 : Nat); omega) | omega | (unfold maxLen; omega)) rfl ?_; clear hA hM a; intro a16 c17 w13 hM a hA
    have hl18 : 0 + Y.length = Y.length := by first | (simp; done) | simp only [List.length_append]
    rw [hl18, show (([] : List Int)).map (Value.int .i64) ++ Y.map (Value.int .i64) = Y.map (Value.int .i64) by simp] at hM; rw [hl18] at hA; clear hl18
    replace hM : Mem _ _ [own 3 1 (.slice a16 Y.length c17) Y.length (Y.map (Value.int .i64)), pt b12 #[.int .i64 G.kind, .int .i64 G.n, .int .i64 G.cap, .slice az3 G.wt.length cz3, .slice az4 G.vl.length cz4, .slice az5 rsz.length cz5] 25, bundle (insL 3 22 G az3 cz3 az4 cz4 az5 cz5 rsz)] _ := hM
    refine S.val hA (R.assign rfl) rfl ?_; clear hA a; intro a hA
    refine S.done ?_
    refine Ends.seq (Ends.seq (Ends.region ?_))
    refine S.val hA (R.assign rfl) rfl ?_; clear hA a; intro a hA
    refine S.done ?_
    refine Ends.block ?_
    replace hM := hM.front (k := 1) rfl
    replace hM := hM.front (k := 2) rfl
    replace hM := hM.unpack
    replace hM : Mem _ _ [own 3 1 (.slice az3 G.wt.length cz3) G.wt.length (G.wt.map (Value.int .i64)), own 3 1 (.slice az4 G.vl.length cz4) G.vl.length (G.vl.map (Value.int .i64)), own 22 1 (.slice az5 rsz.length cz5) rsz.length ((rsz.map orV)), bundle (rsz.map (orC 3)), pt b12 #[.int .i64 G.kind, .int .i64 G.n, .int .i64 G.cap, .slice az3 G.wt.length cz3, .slice az4 G.vl.length cz4, .slice az5 rsz.length cz5] 25, own 3 1 (.slice a16 Y.length c17) Y.length (Y.map (Value.int .i64))] _ := hM
    replace hM := hM.front (k := 4) rfl
    replace hM : Mem _ _ [pt b12 #[.int .i64 G.kind, .int .i64 G.n, .int .i64 G.cap, .slice az3 G.wt.length cz3, .slice az4 G.vl.length cz4, .slice az5 rsz.length cz5] 25, own 3 1 (.slice az3 G.wt.length cz3) G.wt.length (G.wt.map (Value.int .i64)), own 3 1 (.slice az4 G.vl.length cz4) G.vl.length (G.vl.map (Value.int .i64)), own 22 1 (.slice az5 rsz.length cz5) rsz.length ((rsz.map orV)), bundle (rsz.map (orC 3)), own 3 1 (.slice a16 Y.length c17) Y.length (Y.map (Value.int .i64))] _ := hM
    have hrl0 : rsz.length = n := by rw [← f7, ← hYz, List.length_map]
    have hrs0 : rsz.map (·.Y) = mat n (revG G n 0) := by rw [hYz, hcm]; exact revG_zero
    obtain ⟨gb, hgb_⟩ := hM.ownAt (k := 3) rfl (by omega)
    subst hgb_
    replace hM : Mem _ _ [pt b12 #[.int .i64 G.kind, .int .i64 G.n, .int .i64 G.cap, .slice az3 G.wt.length cz3, .slice az4 G.vl.length cz4, .slice ((some ⟨gb, 0, none⟩)) rsz.length cz5] 25, own 3 1 (.slice az3 G.wt.length cz3) G.wt.length (G.wt.map (Value.int .i64)), own 3 1 (.slice az4 G.vl.length cz4) G.vl.length (G.vl.map (Value.int .i64)), own 22 1 (.slice ((some ⟨gb, 0, none⟩)) rsz.length cz5) rsz.length ((rsz.map orV)), bundle (rsz.map (orC 3)), own 3 1 (.slice a16 Y.length c17) Y.length (Y.map (Value.int .i64))] _ := hM
    obtain ⟨gy, hgy_⟩ := hM.ownAt (k := 5) rfl (by omega)
    subst hgy_
    replace hM : Mem _ _ [pt b12 #[.int .i64 G.kind, .int .i64 G.n, .int .i64 G.cap, .slice az3 G.wt.length cz3, .slice az4 G.vl.length cz4, .slice ((some ⟨gb, 0, none⟩)) rsz.length cz5] 25, own 3 1 (.slice az3 G.wt.length cz3) G.wt.length (G.wt.map (Value.int .i64)), own 3 1 (.slice az4 G.vl.length cz4) G.vl.length (G.vl.map (Value.int .i64)), own 22 1 (.slice ((some ⟨gb, 0, none⟩)) rsz.length cz5) rsz.length ((rsz.map orV)), bundle (rsz.map (orC 3)), own 3 1 (.slice ((some ⟨gy, 0, none⟩)) Y.length c17) Y.length (Y.map (Value.int .i64))] _ := hM
    replace hM := hM.front (k := 4) rfl
    replace hM := hM.front (k := 4) rfl
    replace hM := hM.front (k := 4) rfl
    replace hM := hM.front (k := 4) rfl
    replace hM := hM.front (k := 4) rfl
    replace hM := hM.front (k := 5) rfl
    replace hM : Mem _ _ [own 3 1 (.slice ((some ⟨gy, 0, none⟩)) Y.length c17) Y.length (Y.map (Value.int .i64)), pt b12 #[.int .i64 G.kind, .int .i64 G.n, .int .i64 G.cap, .slice az3 G.wt.length cz3, .slice az4 G.vl.length cz4, .slice ((some ⟨gb, 0, none⟩)) rsz.length cz5] 25, own 3 1 (.slice az3 G.wt.length cz3) G.wt.length (G.wt.map (Value.int .i64)), own 3 1 (.slice az4 G.vl.length cz4) G.vl.length (G.vl.map (Value.int .i64)), own 22 1 (.slice ((some ⟨gb, 0, none⟩)) rsz.length cz5) rsz.length ((rsz.map orV)), bundle (rsz.map (orC 3))] _ := hM
    replace hM := Mem.eqM (L2 := [own 3 1 (.slice ((some ⟨gy, 0, none⟩)) Y.length c17) Y.length (((rvK Y n 0)).map (Value.int .i64)), pt b12 #[.int .i64 G.kind, .int .i64 G.n, .int .i64 G.cap, .slice az3 G.wt.length cz3, .slice az4 G.vl.length cz4, .slice ((some ⟨gb, 0, none⟩)) rsz.length cz5] 25, own 3 1 (.slice az3 G.wt.length cz3) G.wt.length (G.wt.map (Value.int .i64)), own 3 1 (.slice az4 G.vl.length cz4) G.vl.length (G.vl.map (Value.int .i64)), own 22 1 (.slice ((some ⟨gb, 0, none⟩)) rsz.length cz5) rsz.length ((rsz.map orV)), bundle (rsz.map (orC 3))]) hM (by rw [rvK_zero hYl])
    refine Ends.loop (σ := Nat × List OwR) (fun (k, rs) (a : Act) (wv : World) => St 158 [(1, .slice a7 Y.length c8), (2, .pointer (some ⟨b1, 0, none⟩)), (5, .int .i64 ((costI G Y).1)), (7, .pointer (some ⟨b12, 0, none⟩)), (8, .slice ((some ⟨gy, 0, none⟩)) Y.length c17), (9, .int .i64 ((k : Int)))] a ∧ Mem w5 nof [own 3 1 (.slice ((some ⟨gy, 0, none⟩)) Y.length c17) Y.length (((rvK Y n k)).map (Value.int .i64)), pt b12 #[.int .i64 G.kind, .int .i64 G.n, .int .i64 G.cap, .slice az3 G.wt.length cz3, .slice az4 G.vl.length cz4, .slice ((some ⟨gb, 0, none⟩)) rs.length cz5] 25, own 3 1 (.slice az3 G.wt.length cz3) G.wt.length (G.wt.map (Value.int .i64)), own 3 1 (.slice az4 G.vl.length cz4) G.vl.length (G.vl.map (Value.int .i64)), own 22 1 (.slice ((some ⟨gb, 0, none⟩)) rs.length cz5) rs.length ((rs.map orV)), bundle (rs.map (orC 3))] wv ∧ (k ≤ n) ∧ (rs.map (·.Y) = mat n (revG G n k))) (fun (k, rs) => n - k) ((0, rsz)) ⟨hA.sub ((.cons rfl (.cons rfl (.cons rfl (.cons rfl (.cons rfl (.cons rfl .nil))))))), hM, (Nat.zero_le _), hrs0⟩ ?_
    clear hA hM a
    rintro ⟨k, rs⟩ a w14 ⟨hA, hM, hk, hYs⟩ hNext
    refine Ends.seq (Ends.seq (Ends.region ?_))
    refine S.val hA (R.move rfl) rfl ?_; clear hA a; intro a hA
    refine S.val hA (R.fieldAddr (q := 1) fi25_1 rfl rfl rfl) rfl ?_; clear hA a; intro a hA
    refine S.val hA (R.load sz3 rfl (hM.cellB hbx3 rfl)) rfl ?_; clear hA a; intro a hA
    refine S.val hA (R.lss rfl rfl) rfl ?_; clear hA a; intro a hA
    refine S.done ?_
    refine Ends.ite hA rfl (fun hc19 => ?_) (fun hc19 => ?_)
    ·
     have hkn : k < n := by omega
     have hrk := hrw (n - 1 - k) (by omega)
     refine Ends.skip (Ends.seq (Ends.block (Ends.seq ?_)))
     have hrsl := rows_len hYs
     obtain ⟨Yo, ao, co, hxo, hYo1, hYo2⟩ := row_of hYs hkn
     refine Ends.drawn (Mem w5 nof [own 3 1 (.slice ((some ⟨gy, 0, none⟩)) Y.length c17) Y.length (((rvK Y n k)).map (Value.int .i64)), pt b12 #[.int .i64 G.kind, .int .i64 G.n, .int .i64 G.cap, .slice az3 G.wt.length cz3, .slice az4 G.vl.length cz4, .slice ((some ⟨gb, 0, none⟩)) rs.length cz5] 25, own 3 1 (.slice az3 G.wt.length cz3) G.wt.length (G.wt.map (Value.int .i64)), own 3 1 (.slice az4 G.vl.length cz4) G.vl.length (G.vl.map (Value.int .i64)), own 22 1 (.slice ((some ⟨gb, 0, none⟩)) rs.length cz5) rs.length ((rs.map orV))]) (.cons (0, true) (.cons (1, true) (.cons (2, true) (.cons (4, true) (.cons (5, true) (.cons (6, true) (.cons (7, true) (.cons (8, true) (.cons (9, true) (.cons (10, true) (.cons (11, true) (.cons (12, true) (.cons (3, false) (.cons (13, false) (.cons (14, true) (.cons (15, false) .nil)))))))))))))))) 15 mixed (by kernel_rfl) (by kernel_rfl) (by kernel_rfl) (hM.drop 5).drew ?_
     replace hM := hM.drew
     refine D.valF hA rfl (fun _ => R.fieldAddr (q := 5) fi25_5 rfl rfl rfl) rfl ?_; clear hA a; intro a hA
     refine D.val hA rfl (by kernel_rfl) (fun _ hM => R.load sz23 rfl (hM.cell (k := 1) rfl rfl)) rfl ?_; clear hA a; intro a hA
     refine D.valF hA rfl (fun _ => R.move rfl) rfl ?_; clear hA a; intro a hA
     refine D.valF hA rfl (fun _ => R.fieldAddr (q := 5) fi25_5 rfl rfl rfl) rfl ?_; clear hA a; intro a hA
     refine D.val hA rfl (by kernel_rfl) (fun _ hM => R.load sz23 rfl (hM.cellB hbx3 rfl)) rfl ?_; clear hA a; intro a hA
     refine D.valF hA rfl (fun _ => R.fieldAddr (q := 1) fi25_1 rfl rfl rfl) rfl ?_; clear hA a; intro a hA
     refine D.val hA rfl (by kernel_rfl) (fun _ hM => R.load sz3 rfl (hM.cellB hbx3 rfl)) rfl ?_; clear hA a; intro a hA
     refine D.valF hA rfl (fun _ => R.subI rfl rfl (r := G.n - 1) rfl (by omega)) rfl ?_; clear hA a; intro a hA
     refine D.valF hA rfl (fun _ => R.move rfl) rfl ?_; clear hA a; intro a hA
     refine D.valF hA rfl (fun _ => R.subI rfl rfl (r := (G.n - 1) - ((k : Int))) rfl (by omega)) rfl ?_; clear hA a; intro a hA
     refine D.valF hA rfl (fun _ => R.idxR hy5 (j := (n - 1 - k)) sl23 rfl rfl (by omega) (by omega)) rfl ?_; clear hA a; intro a hA
     obtain ⟨ra20, rc21, hrow22, hld23⟩ := hy5.atP (i := (n - 1 - k)) (by omega)
     refine D.val hA rfl (by kernel_rfl) (fun _ hM => hld23 _ _ _ _ _ _ hM sz22 rfl) rfl ?_; clear hA a; intro a hA
     refine D.buildSl0 hA hM rfl Try.underlying22 info3 rfl ?_; clear hA hM a; intro b24 w15 hb25 hM; refine ⟨(fun hM => (hM.drop 5)) hM.tail, fun a hA => ?_⟩
     replace hM := hM.ownPt (cap := 0) (n := 0) (sz := 1) (xs := []) rfl (Nat.zero_le _) (Nat.le_refl _) rfl
     replace hM : Mem _ _ [own 3 1 (.slice ((some ⟨b24, 0, none⟩)) 0 0) 0 ((([] : List Int)).map (Value.int .i64)), own 3 1 (.slice ((some ⟨gy, 0, none⟩)) Y.length c17) Y.length (((rvK Y n k)).map (Value.int .i64)), pt b12 #[.int .i64 G.kind, .int .i64 G.n, .int .i64 G.cap, .slice az3 G.wt.length cz3, .slice az4 G.vl.length cz4, .slice ((some ⟨gb, 0, none⟩)) rs.length cz5] 25, own 3 1 (.slice az3 G.wt.length cz3) G.wt.length (G.wt.map (Value.int .i64)), own 3 1 (.slice az4 G.vl.length cz4) G.vl.length (G.vl.map (Value.int .i64)), own 22 1 (.slice ((some ⟨gb, 0, none⟩)) rs.length cz5) rs.length ((rs.map orV)), bundle (rs.map (orC 3))] _ := hM
     refine D.appendI (k := 0) hA hM rfl rfl (hrow22.mem hM) (by omega) Try.underlying22 info3 rfl rfl rfl rfl rfl rfl (by first | (show (0 + _) * 8 ≤ (140737488355328 : Nat); omega) | (show (_ + 1) * 8 ≤ (140737488355328 : Nat); omega) | (rw [take_min70, List.length_take]; unfold maxLen; omega) | (rw [take_min70, List.length_take]; show (0 + _) * 8 ≤ (140737488355328 : Nat); omega) | omega | (unfold maxLen; omega)) (by first | (show (0 + _) * 8 ≤ (140737488355328 : Nat); omega) | (show (_ + 1) * 8 ≤ (140737488355328 : Nat); omega) | (rw [take_min70, List.length_take]; unfold maxLen; omega) | (rw [take_min70, List.length_take]; show (0 + _) * 8 ≤ (140737488355328 : Nat); omega) | omega | (unfold maxLen; omega)) rfl ?_; clear hA hM a; intro a26 c27 w16 hM
     have hl28 : 0 + ((G.cost.getD ((n - 1 - k)) [])).length = (((G.cost.getD ((n - 1 - k)) []))).length := by first | (simp; done) | simp only [List.length_append]
     rw [hl28, show (([] : List Int)).map (Value.int .i64) ++ ((G.cost.getD ((n - 1 - k)) [])).map (Value.int .i64) = (((G.cost.getD ((n - 1 - k)) []))).map (Value.int .i64) by simp] at hM
     replace hM : Mem _ _ [own 3 1 (.slice a26 ((((G.cost.getD ((n - 1 - k)) []))).length) c27) ((((G.cost.getD ((n - 1 - k)) []))).length) ((((G.cost.getD ((n - 1 - k)) []))).map (Value.int .i64)), own 3 1 (.slice ((some ⟨gy, 0, none⟩)) Y.length c17) Y.length (((rvK Y n k)).map (Value.int .i64)), pt b12 #[.int .i64 G.kind, .int .i64 G.n, .int .i64 G.cap, .slice az3 G.wt.length cz3, .slice az4 G.vl.length cz4, .slice ((some ⟨gb, 0, none⟩)) rs.length cz5] 25, own 3 1 (.slice az3 G.wt.length cz3) G.wt.length (G.wt.map (Value.int .i64)), own 3 1 (.slice az4 G.vl.length cz4) G.vl.length (G.vl.map (Value.int .i64)), own 22 1 (.slice ((some ⟨gb, 0, none⟩)) rs.length cz5) rs.length ((rs.map orV)), bundle (rs.map (orC 3))] _ := hM
     refine ⟨((hM.drop 6).drop 0), fun a hA => ?_⟩; rw [hl28] at hA; clear hl28
     refine D.valF hA rfl (fun _ => R.indexAddr (q := k) sl23 rfl rfl (by omega) (by omega)) rfl ?_; clear hA a; intro a hA
     refine D.storeO (k := 5) hA hM rfl sz22 rfl rfl rfl rfl (orV_of hxo) ?_; clear hM; intro w17 hM
     refine ⟨fun _ hne => absurd rfl hne, ?_⟩
     replace hM : Mem _ _ [own 3 1 (.slice a26 ((((G.cost.getD ((n - 1 - k)) []))).length) c27) ((((G.cost.getD ((n - 1 - k)) []))).length) ((((G.cost.getD ((n - 1 - k)) []))).map (Value.int .i64)), own 3 1 (.slice ((some ⟨gy, 0, none⟩)) Y.length c17) Y.length (((rvK Y n k)).map (Value.int .i64)), pt b12 #[.int .i64 G.kind, .int .i64 G.n, .int .i64 G.cap, .slice az3 G.wt.length cz3, .slice az4 G.vl.length cz4, .slice ((some ⟨gb, 0, none⟩)) rs.length cz5] 25, own 3 1 (.slice az3 G.wt.length cz3) G.wt.length (G.wt.map (Value.int .i64)), own 3 1 (.slice az4 G.vl.length cz4) G.vl.length (G.vl.map (Value.int .i64)), own 22 1 (.slice ((some ⟨gb, 0, none⟩)) rs.length cz5) rs.length (((rs.map orV).set k (.slice a26 ((((G.cost.getD ((n - 1 - k)) []))).length) c27))), bundle (rs.map (orC 3))] _ := hM
     refine D.done ?_
     replace hM := hM.front (k := 6) rfl
     replace hM := (hM.openB hxo).drop 0
     replace hM : Mem _ _ [bundle ((rs.eraseIdx k).map (orC 3)), own 3 1 (.slice a26 ((((G.cost.getD ((n - 1 - k)) []))).length) c27) ((((G.cost.getD ((n - 1 - k)) []))).length) ((((G.cost.getD ((n - 1 - k)) []))).map (Value.int .i64)), own 3 1 (.slice ((some ⟨gy, 0, none⟩)) Y.length c17) Y.length (((rvK Y n k)).map (Value.int .i64)), pt b12 #[.int .i64 G.kind, .int .i64 G.n, .int .i64 G.cap, .slice az3 G.wt.length cz3, .slice az4 G.vl.length cz4, .slice ((some ⟨gb, 0, none⟩)) rs.length cz5] 25, own 3 1 (.slice az3 G.wt.length cz3) G.wt.length (G.wt.map (Value.int .i64)), own 3 1 (.slice az4 G.vl.length cz4) G.vl.length (G.vl.map (Value.int .i64)), own 22 1 (.slice ((some ⟨gb, 0, none⟩)) rs.length cz5) rs.length (((rs.map orV).set k (.slice a26 ((((G.cost.getD ((n - 1 - k)) []))).length) c27)))] _ := hM
     replace hM := hM.front (k := 1) rfl
     replace hM := Mem.closeB (f := orC 3) (y := (⟨((G.cost.getD ((n - 1 - k)) [])), a26, c27⟩ : OwR)) hM hxo
     rw [show (rs.map orV).set k (.slice a26 ((((G.cost.getD ((n - 1 - k)) []))).length) c27) = (rs.set k (⟨((G.cost.getD ((n - 1 - k)) [])), a26, c27⟩ : OwR)).map orV by rw [List.map_set]; rfl, show rs.length = (rs.set k (⟨((G.cost.getD ((n - 1 - k)) [])), a26, c27⟩ : OwR)).length from List.length_set.symm] at hM
     replace hM : Mem _ _ [bundle ((rs.set k (⟨((G.cost.getD ((n - 1 - k)) [])), a26, c27⟩ : OwR)).map (orC 3)), own 3 1 (.slice ((some ⟨gy, 0, none⟩)) Y.length c17) Y.length (((rvK Y n k)).map (Value.int .i64)), pt b12 #[.int .i64 G.kind, .int .i64 G.n, .int .i64 G.cap, .slice az3 G.wt.length cz3, .slice az4 G.vl.length cz4, .slice ((some ⟨gb, 0, none⟩)) ((rs.set k (⟨((G.cost.getD ((n - 1 - k)) [])), a26, c27⟩ : OwR)).length) cz5] 25, own 3 1 (.slice az3 G.wt.length cz3) G.wt.length (G.wt.map (Value.int .i64)), own 3 1 (.slice az4 G.vl.length cz4) G.vl.length (G.vl.map (Value.int .i64)), own 22 1 (.slice ((some ⟨gb, 0, none⟩)) ((rs.set k (⟨((G.cost.getD ((n - 1 - k)) [])), a26, c27⟩ : OwR)).length) cz5) ((rs.set k (⟨((G.cost.getD ((n - 1 - k)) [])), a26, c27⟩ : OwR)).length) (((rs.set k (⟨((G.cost.getD ((n - 1 - k)) [])), a26, c27⟩ : OwR)).map orV))] _ := hM
     have hY3 : (rs.set k (⟨((G.cost.getD ((n - 1 - k)) [])), a26, c27⟩ : OwR)).map (·.Y) = mat n (revG G n (k + 1)) := by
      refine (rows_setRow (h := fun c => cel G (n - 1 - k) c) hYs ?_).trans revG_step
      show ((G.cost.getD ((n - 1 - k)) [])) = _
      rw [hcm]; exact mat_row (by omega)
     replace hA : St 158 [(1, _), (2, _), (5, _), (7, _), (8, _), (9, _)] a := hA.sub ((.cons rfl (.cons rfl (.cons rfl (.cons rfl (.cons rfl (.cons rfl .nil)))))))
     have hrvl := rvK_len Y n k
     refine Ends.region ?_
     refine S.val hA (R.move rfl) rfl ?_; clear hA a; intro a hA
     refine S.val hA (R.move rfl) rfl ?_; clear hA a; intro a hA
     refine S.val hA (R.move rfl) rfl ?_; clear hA a; intro a hA
     refine S.val hA (R.fieldAddr (q := 1) fi25_1 rfl rfl rfl) rfl ?_; clear hA a; intro a hA
     refine S.val hA (R.load sz3 rfl (hM.cellB hbx3 rfl)) rfl ?_; clear hA a; intro a hA
     refine S.val hA (R.subI rfl rfl (r := G.n - 1) rfl (by omega)) rfl ?_; clear hA a; intro a hA
     refine S.val hA (R.move rfl) rfl ?_; clear hA a; intro a hA
     refine S.val hA (R.subI rfl rfl (r := (G.n - 1) - ((k : Int))) rfl (by omega)) rfl ?_; clear hA a; intro a hA
     refine S.val hA (R.idxI hxr (j := (n - 1 - k)) sl22 rfl rfl (by omega) (by omega)) rfl ?_; clear hA a; intro a hA
     refine S.val hA (R.loadI (hxr.mem hM) sz3 rfl (by omega)) rfl ?_; clear hA a; intro a hA
     refine S.val hA (R.indexAddr (q := k) sl22 rfl rfl (by omega) (by omega)) rfl ?_; clear hA a; intro a hA
     refine S.storeO (k := 1) hA hM sz3 rfl rfl rfl rfl (mapi_get ((rvK Y n k)) k (by first | omega | (simp only [List.length_set]; omega) | (simp; done))) ?_; clear hM; intro w18 hM; rw [mapi_set] at hM
     replace hM : Mem _ _ [bundle ((rs.set k (⟨((G.cost.getD ((n - 1 - k)) [])), a26, c27⟩ : OwR)).map (orC 3)), own 3 1 (.slice ((some ⟨gy, 0, none⟩)) Y.length c17) Y.length ((((rvK Y n k).set k (Y.getD ((n - 1 - k)) 0))).map (Value.int .i64)), pt b12 #[.int .i64 G.kind, .int .i64 G.n, .int .i64 G.cap, .slice az3 G.wt.length cz3, .slice az4 G.vl.length cz4, .slice ((some ⟨gb, 0, none⟩)) ((rs.set k (⟨((G.cost.getD ((n - 1 - k)) [])), a26, c27⟩ : OwR)).length) cz5] 25, own 3 1 (.slice az3 G.wt.length cz3) G.wt.length (G.wt.map (Value.int .i64)), own 3 1 (.slice az4 G.vl.length cz4) G.vl.length (G.vl.map (Value.int .i64)), own 22 1 (.slice ((some ⟨gb, 0, none⟩)) ((rs.set k (⟨((G.cost.getD ((n - 1 - k)) [])), a26, c27⟩ : OwR)).length) cz5) ((rs.set k (⟨((G.cost.getD ((n - 1 - k)) [])), a26, c27⟩ : OwR)).length) (((rs.set k (⟨((G.cost.getD ((n - 1 - k)) [])), a26, c27⟩ : OwR)).map orV))] _ := hM
     refine S.done ?_
     rw [rvK_step] at hM
     replace hM : Mem _ _ [bundle ((rs.set k (⟨((G.cost.getD ((n - 1 - k)) [])), a26, c27⟩ : OwR)).map (orC 3)), own 3 1 (.slice ((some ⟨gy, 0, none⟩)) Y.length c17) Y.length (((rvK Y n (k + 1))).map (Value.int .i64)), pt b12 #[.int .i64 G.kind, .int .i64 G.n, .int .i64 G.cap, .slice az3 G.wt.length cz3, .slice az4 G.vl.length cz4, .slice ((some ⟨gb, 0, none⟩)) ((rs.set k (⟨((G.cost.getD ((n - 1 - k)) [])), a26, c27⟩ : OwR)).length) cz5] 25, own 3 1 (.slice az3 G.wt.length cz3) G.wt.length (G.wt.map (Value.int .i64)), own 3 1 (.slice az4 G.vl.length cz4) G.vl.length (G.vl.map (Value.int .i64)), own 22 1 (.slice ((some ⟨gb, 0, none⟩)) ((rs.set k (⟨((G.cost.getD ((n - 1 - k)) [])), a26, c27⟩ : OwR)).length) cz5) ((rs.set k (⟨((G.cost.getD ((n - 1 - k)) [])), a26, c27⟩ : OwR)).length) (((rs.set k (⟨((G.cost.getD ((n - 1 - k)) [])), a26, c27⟩ : OwR)).map orV))] _ := hM
     replace hA : St 158 [(1, _), (2, _), (5, _), (7, _), (8, _), (9, _)] a := hA.sub ((.cons rfl (.cons rfl (.cons rfl (.cons rfl (.cons rfl (.cons rfl .nil)))))))
     refine Ends.inBlock (Ends.region ?_)
     refine S.val hA (R.move rfl) rfl ?_; clear hA a; intro a hA
     refine S.val hA (R.addI rfl rfl (r := ((k : Int)) + 1) rfl (by omega)) rfl ?_; clear hA a; intro a hA
     refine S.val hA (R.assign rfl) rfl ?_; clear hA a; intro a hA
     refine S.done ?_
     replace hM := hM.front (k := 5) rfl
     replace hM := hM.front (k := 5) rfl
     replace hM := hM.front (k := 5) rfl
     replace hM := hM.front (k := 5) rfl
     replace hM := hM.front (k := 5) rfl
     replace hM : Mem _ _ [own 3 1 (.slice ((some ⟨gy, 0, none⟩)) Y.length c17) Y.length (((rvK Y n (k + 1))).map (Value.int .i64)), pt b12 #[.int .i64 G.kind, .int .i64 G.n, .int .i64 G.cap, .slice az3 G.wt.length cz3, .slice az4 G.vl.length cz4, .slice ((some ⟨gb, 0, none⟩)) ((rs.set k (⟨((G.cost.getD ((n - 1 - k)) [])), a26, c27⟩ : OwR)).length) cz5] 25, own 3 1 (.slice az3 G.wt.length cz3) G.wt.length (G.wt.map (Value.int .i64)), own 3 1 (.slice az4 G.vl.length cz4) G.vl.length (G.vl.map (Value.int .i64)), own 22 1 (.slice ((some ⟨gb, 0, none⟩)) ((rs.set k (⟨((G.cost.getD ((n - 1 - k)) [])), a26, c27⟩ : OwR)).length) cz5) ((rs.set k (⟨((G.cost.getD ((n - 1 - k)) [])), a26, c27⟩ : OwR)).length) (((rs.set k (⟨((G.cost.getD ((n - 1 - k)) [])), a26, c27⟩ : OwR)).map orV)), bundle ((rs.set k (⟨((G.cost.getD ((n - 1 - k)) [])), a26, c27⟩ : OwR)).map (orC 3))] _ := hM
     exact hNext ((k + 1, (rs.set k (⟨((G.cost.getD ((n - 1 - k)) [])), a26, c27⟩ : OwR)))) _ _ ((by show n - (k + 1) < n - k; omega)) ⟨hA.sub ((.cons rfl (.cons rfl (.cons rfl (.cons rfl (.cons rfl (.cons rfl .nil))))))), hM, (by omega), hY3⟩
    ·
     have hke : k = n := by omega
     refine Ends.exit rfl ?_
     replace hA : St 158 [(1, _), (2, _), (5, _), (7, _), (8, _)] a := hA.sub ((.cons rfl (.cons rfl (.cons rfl (.cons rfl (.cons rfl .nil))))))
     refine Ends.seq ?_
     replace hM := hM.front (k := 5) rfl
     replace hM := hM.front (k := 5) rfl
     replace hM := hM.front (k := 5) rfl
     replace hM := hM.front (k := 5) rfl
     replace hM := hM.front (k := 5) rfl
     replace hM := hM.front (k := 5) rfl
     replace hM : Mem _ _ [own 3 1 (.slice ((some ⟨gy, 0, none⟩)) Y.length c17) Y.length (((rvK Y n k)).map (Value.int .i64)), pt b12 #[.int .i64 G.kind, .int .i64 G.n, .int .i64 G.cap, .slice az3 G.wt.length cz3, .slice az4 G.vl.length cz4, .slice ((some ⟨gb, 0, none⟩)) rs.length cz5] 25, own 3 1 (.slice az3 G.wt.length cz3) G.wt.length (G.wt.map (Value.int .i64)), own 3 1 (.slice az4 G.vl.length cz4) G.vl.length (G.vl.map (Value.int .i64)), own 22 1 (.slice ((some ⟨gb, 0, none⟩)) rs.length cz5) rs.length ((rs.map orV)), bundle (rs.map (orC 3))] _ := hM
     rw [hke] at hYs hM
     have hYm : rs.map (·.Y) = (revI G).cost := by rw [hYs, revG_all]; unfold revI; rw [hnt]
     have hlct : rs.length = (revI G).cost.length := by rw [← hYm, List.length_map]
     have hlaw := rev_law hk2 hz0
     rw [hnt] at hlaw
     rw [rvK_all] at hM
     have hyl : Y.length = (revX Y n).length := by rw [hYl]; simp [revX]
     rw [hyl] at hM hA
     have hyr := hM.rsl (k := 0) (X := revX Y n) rfl
     replace hM := hM.drop 0
     replace hM : Mem _ _ [pt b12 #[.int .i64 G.kind, .int .i64 G.n, .int .i64 G.cap, .slice az3 G.wt.length cz3, .slice az4 G.vl.length cz4, .slice ((some ⟨gb, 0, none⟩)) rs.length cz5] 25, own 3 1 (.slice az3 G.wt.length cz3) G.wt.length (G.wt.map (Value.int .i64)), own 3 1 (.slice az4 G.vl.length cz4) G.vl.length (G.vl.map (Value.int .i64)), own 22 1 (.slice ((some ⟨gb, 0, none⟩)) rs.length cz5) rs.length ((rs.map orV)), bundle (rs.map (orC 3))] _ := hM
     replace hM := hM.front (k := 4) rfl
     replace hM := hM.front (k := 4) rfl
     replace hM := hM.front (k := 4) rfl
     replace hM := hM.front (k := 4) rfl
     replace hM := Mem.pack (cs := insL 3 22 (revI G) az3 cz3 az4 cz4 (some ⟨gb, 0, none⟩) cz5 rs) (L := [pt b12 #[.int .i64 G.kind, .int .i64 G.n, .int .i64 G.cap, .slice az3 G.wt.length cz3, .slice az4 G.vl.length cz4, .slice ((some ⟨gb, 0, none⟩)) rs.length cz5] 25]) hM
     obtain ⟨-, hz3, hz4, hz5⟩ := insR_of hM (k := 0) rfl hYm
     replace hM := hM.drop 0
     rw [hlct] at hM
     replace hM : Mem _ _ [pt b12 #[.int .i64 ((revI G).kind), .int .i64 ((revI G).n), .int .i64 ((revI G).cap), .slice az3 (((revI G).wt).length) cz3, .slice az4 (((revI G).vl).length) cz4, .slice ((some ⟨gb, 0, none⟩)) (((revI G).cost).length) cz5] 25] _ := hM
     have hr1 : (revI G).wt.length ≤ 70 := hsmy.1
     have hr2 : (revI G).vl.length ≤ 70 := hsmy.2.1
     obtain ⟨T, hT⟩ : ∃ T, revI G = T := ⟨_, rfl⟩
     rw [hT] at hM hz3 hz4 hz5 hlaw hr1 hr2
     replace hM : Mem _ _ [pt b12 #[.int .i64 T.kind, .int .i64 T.n, .int .i64 T.cap, .slice az3 T.wt.length cz3, .slice az4 T.vl.length cz4, .slice ((some ⟨gb, 0, none⟩)) T.cost.length cz5] 25] _ := hM
     have hbx29 := hM.block (k := 0) rfl
     have hbs := hbs.trans (hM.below.mono hbs.size)
     have hx3 := hx3.mem hM
     have hx4 := hx4.mem hM
     have hx5 := hx5.mem hM
     have hy := hy.mem hM
     have hy3 := hy3.mem hM
     have hy4 := hy4.mem hM
     have hy5 := hy5.mem hM
     have hsl6 := hsl6.mem hM
     have hxr := hxr.mem hM
     have hbx3 := hM.keepB hbx3
     replace hM := Mem.start w14
     refine Ends.region ?_
     refine S.val hA (R.loadA sz25 rfl (hM.oldRange hbx29) rfl) rfl ?_; clear hA a; intro a hA
     refine S.val hA (R.move rfl) rfl ?_; clear hA a; intro a hA
     refine S.call hA (R.callF Try.func17 rfl rfl rfl) rfl (cost08 T az3 cz3 az4 cz4 ((some ⟨gb, 0, none⟩)) cz5 ((some ⟨gy, 0, none⟩)) ((revX Y n)) c17 ⟨by omega, by omega⟩ _ (hz3.mem hM) (hz4.mem hM) (hz5.mem hM) (hyr.mem hM)) ?_; clear hA a
     rintro e w19 ⟨rfl, hb⟩
     replace hM := hM.callB hb; clear hb
     refine ⟨.tuple #[.int .i64 ((costI T ((revX Y n))).1), .int .i64 ((costI T ((revX Y n))).2)], rfl, fun a hA => ?_⟩
     refine S.val hA (R.move rfl) rfl ?_; clear hA a; intro a hA
     refine S.val hA (R.extract (v := .int .i64 ((costI T ((revX Y n))).1)) rfl rfl) rfl ?_; clear hA a; intro a hA
     refine S.val hA (R.extract (v := .int .i64 ((costI T ((revX Y n))).2)) rfl rfl) rfl ?_; clear hA a; intro a hA
     refine S.val hA (R.assign rfl) rfl ?_; clear hA a; intro a hA
     refine S.val hA (R.assign rfl) rfl ?_; clear hA a; intro a hA
     refine S.done ?_
     replace hA : St 158 [(2, _), (5, _), (10, _), (11, _)] a := hA.sub ((.cons rfl (.cons rfl (.cons rfl (.cons rfl .nil)))))
     refine Ends.seq (Ends.region ?_)
     refine S.val hA (R.move rfl) rfl ?_; clear hA a; intro a hA
     refine S.val hA (R.tt (R.eql rfl rfl) (by rw [hlaw])) rfl ?_; clear hA a; intro a hA
     refine S.val hA (R.move rfl) rfl ?_; clear hA a; intro a hA
     refine S.valg (dj := 93) hA (by kernel_rfl) rfl (R.move rfl) rfl ?_; clear hA a; intro a hA
     refine S.valg (dj := 93) hA (by kernel_rfl) rfl (R.move rfl) rfl ?_; clear hA a; intro a hA
     refine S.valg (dj := 93) hA (by kernel_rfl) rfl (R.tt (R.eql rfl rfl) (by rw [hlaw])) rfl ?_; clear hA a; intro a hA
     refine S.val hA (R.pickT rfl rfl) rfl ?_; clear hA a; intro a hA
     refine S.val hA (R.assign rfl) rfl ?_; clear hA a; intro a hA
     refine S.done ?_
     replace hA : St 158 [(2, _), (4, _)] a := hA.sub ((.cons rfl (.cons rfl .nil)))
     refine Ends.ret1 Try.func4 Try.results4 hA rfl ?_
     exact ⟨rfl, Mem.trans0 hbs hM.nilL⟩
   · omega
 ·
  refine Ends.region ?_
  refine S.call hA (R.callF Try.func16 rfl rfl rfl) rfl (values_any _) ?_; clear hA a
  rintro e w20 ⟨rfl, hb⟩
  replace hM := hM.callB hb; clear hb
  refine ⟨.bool true, rfl, fun a hA => ?_⟩
  refine S.val hA (R.not rfl) rfl ?_; clear hA a; intro a hA
  refine S.val hA (R.move rfl) rfl ?_; clear hA a; intro a hA
  refine S.valg (dj := 35) hA (by kernel_rfl) rfl (R.move rfl) rfl ?_; clear hA a; intro a hA
  refine S.valg (dj := 35) hA (by kernel_rfl) rfl (R.neq rfl rfl) rfl ?_; clear hA a; intro a hA
  refine S.val hA (R.pickF rfl rfl) rfl ?_; clear hA a; intro a hA
  refine S.val hA (R.move rfl) rfl ?_; clear hA a; intro a hA
  refine hA.split (d := 39) rfl ?_ ?_
  ·
   clear hA; intro hg30 hA
   refine S.no (dj := 39) hA (by kernel_rfl) rfl rfl rfl ?_; clear hA a; intro a hA
   refine S.no (dj := 39) hA (by kernel_rfl) rfl rfl rfl ?_; clear hA a; intro a hA
   refine S.no (dj := 39) hA (by kernel_rfl) rfl rfl rfl ?_; clear hA a; intro a hA
   refine S.val hA (R.pickT rfl rfl) rfl ?_; clear hA a; intro a hA
   refine S.done ?_
   replace hA : St 158 [(1, _), (2, _), (5, _), (43, _)] a := hA.sub ((.cons rfl (.cons rfl (.cons rfl (.cons rfl .nil)))))
   exact hJ _ _ ⟨hA.sub (.cons rfl (.cons rfl (.cons rfl (.cons (by first | rfl | exact congrArg (fun b => some (Value.bool b)) (by first | exact decide_eq_decide.2 (by omega) | exact or_bool (by omega) | exact and_bool (by omega) | (simp; done) | (simp [hg30]; done) | (have h80 := hg30; (try simp at h80); simp [h80]; done) | exact (decide_eq_false (fun h9 => hg30 h9.1)).symm)) .nil)))), hM⟩
  ·
   clear hA; intro hg30 hA
   refine S.valg (dj := 39) hA (by kernel_rfl) rfl (R.fieldAddr (q := 0) fi25_0 rfl rfl rfl) rfl ?_; clear hA a; intro a hA
   refine S.valg (dj := 39) hA (by kernel_rfl) rfl (R.load sz3 rfl (hM.cellB hbx3 rfl)) rfl ?_; clear hA a; intro a hA
   refine S.valg (dj := 39) hA (by kernel_rfl) rfl (R.eql rfl rfl) rfl ?_; clear hA a; intro a hA
   refine S.val hA (R.pickF rfl rfl) rfl ?_; clear hA a; intro a hA
   refine S.done ?_
   replace hA : St 158 [(1, _), (2, _), (5, _), (43, _)] a := hA.sub ((.cons rfl (.cons rfl (.cons rfl (.cons rfl .nil)))))
   exact hJ _ _ ⟨hA.sub (.cons rfl (.cons rfl (.cons rfl (.cons (by first | rfl | exact congrArg (fun b => some (Value.bool b)) (by first | exact decide_eq_decide.2 (by omega) | exact or_bool (by omega) | exact and_bool (by omega) | (simp; done) | (simp [hg30]; done) | (have h80 := hg30; (try simp at h80); simp [h80]; done) | exact (decide_eq_false (fun h9 => hg30 h9.1)).symm)) .nil)))), hM⟩
set_option maxRecDepth 100000 in
set_option maxHeartbeats 400000 in
theorem valueTurns_3 (i : Ins) (ax3 : Option Addr) (cx3 : Nat) (ax4 : Option Addr) (cx4 : Nat) (ax5 : Option Addr) (cx5 : Nat) (ay : Option Addr) (x : List Int) (cy : Nat) (hk3 : i.kind = 3) (w : World) (hx3 : IntSl w (.slice ax3 i.wt.length cx3) i.wt) (hx4 : IntSl w (.slice ax4 i.vl.length cx4) i.vl) (hx5 : RowsV w (.slice ax5 i.cost.length cx5) i.cost) (hy : IntSl w (.slice ay x.length cy) x) :
  Calls Try.prog 4 #[.agg #[.int .i64 i.kind, .int .i64 i.n, .int .i64 i.cap, .slice ax3 i.wt.length cx3, .slice ax4 i.vl.length cx4, .slice ax5 i.cost.length cx5], .slice ay x.length cy] w fun e w' => e = .returned (.bool true) ∧ Below w.heap.size w w' := by
 have hbs := Below.refl (B := w.heap.size) w
 have hM := Mem.start w
 refine Calls.of_ends (vs := [.agg #[.int .i64 i.kind, .int .i64 i.n, .int .i64 i.cap, .slice ax3 i.wt.length cx3, .slice ax4 i.vl.length cx4, .slice ax5 i.cost.length cx5], .slice ay x.length cy]) Try.func4 rfl Try.ntmps4 rfl ?_
 intro a hA
 replace hA : St 158 [(0, _), (1, _)] a := hA
 refine Ends.seq (Ends.region ?_)
 refine S.box hA hM rfl rfl ?_; clear hA hM a; intro b1 w1 hb2 hM a hA
 replace hM : Mem _ _ [pt b1 #[.int .i64 i.kind, .int .i64 i.n, .int .i64 i.cap, .slice ax3 i.wt.length cx3, .slice ax4 i.vl.length cx4, .slice ax5 i.cost.length cx5] 25] _ := hM
 refine S.val hA (R.assign rfl) rfl ?_; clear hA a; intro a hA
 refine S.done ?_
 refine Ends.seq (Ends.region ?_)
 refine S.val hA (R.loadA sz25 rfl (hM.range (k := 0) rfl) rfl) rfl ?_; clear hA a; intro a hA
 obtain ⟨Gy, hGy⟩ : ∃ Gy, Gy = cutI i := ⟨_, rfl⟩
 have hsmy : smallI Gy := by rw [hGy]; exact cutI_small _
 have hscy := cutI_of_small hsmy
 have hsy1 := hsmy.1
 have hsy2 := hsmy.2.1
 have hsy3 := hsmy.2.2.1
 refine S.call hA (R.callF Try.func13 rfl rfl rfl) rfl (copyG i ax3 cx3 ax4 cx4 ax5 cx5 Gy hGy _ (hx3.mem hM) (hx4.mem hM) (hx5.mem hM)) ?_; clear hA a
 rintro e w2 ⟨ay3, cy3, ay4, cy4, ay5, cy5, rsy, rfl, hYy, hn⟩
 replace hM : Mem _ _ [bundle (insL 3 22 Gy ay3 cy3 ay4 cy4 ay5 cy5 rsy), pt b1 #[.int .i64 i.kind, .int .i64 i.n, .int .i64 i.cap, .slice ax3 i.wt.length cx3, .slice ax4 i.vl.length cx4, .slice ax5 i.cost.length cx5] 25] _ := hM.call hn; clear hn
 refine ⟨.agg #[.int .i64 Gy.kind, .int .i64 Gy.n, .int .i64 Gy.cap, .slice ay3 Gy.wt.length cy3, .slice ay4 Gy.vl.length cy4, .slice ay5 rsy.length cy5], rfl, fun a hA => ?_⟩
 refine S.storeA (k := 1) hA hM sz25 rfl rfl rfl rfl rfl rfl ?_; clear hM
 intro w3 hM
 replace hM : Mem _ _ [bundle (insL 3 22 Gy ay3 cy3 ay4 cy4 ay5 cy5 rsy), pt b1 #[.int .i64 Gy.kind, .int .i64 Gy.n, .int .i64 Gy.cap, .slice ay3 Gy.wt.length cy3, .slice ay4 Gy.vl.length cy4, .slice ay5 rsy.length cy5] 25] _ := hM
 refine S.done ?_
 replace hA : St 158 [(1, _), (2, _)] a := hA.sub ((.cons rfl (.cons rfl .nil)))
 refine Ends.seq ?_
 have hlcy : rsy.length = Gy.cost.length := by rw [← hYy, List.length_map]
 rw [hlcy] at hM
 replace hM : Mem _ _ [bundle (insL 3 22 Gy ay3 cy3 ay4 cy4 ay5 cy5 rsy), pt b1 #[.int .i64 Gy.kind, .int .i64 Gy.n, .int .i64 Gy.cap, .slice ay3 Gy.wt.length cy3, .slice ay4 Gy.vl.length cy4, .slice ay5 Gy.cost.length cy5] 25] _ := hM
 refine Ends.region ?_
 refine S.buildSl0 hA hM Try.underlying22 info3 rfl ?_; clear hA hM a; intro b3 w4 hb4 hM a hA
 replace hM := hM.ownPt (cap := 0) (n := 0) (sz := 1) (xs := []) rfl (Nat.zero_le _) (Nat.le_refl _) rfl
 replace hM : Mem _ _ [own 3 1 (.slice ((some ⟨b3, 0, none⟩)) 0 0) 0 ((([] : List Int)).map (Value.int .i64)), bundle (insL 3 22 Gy ay3 cy3 ay4 cy4 ay5 cy5 rsy), pt b1 #[.int .i64 Gy.kind, .int .i64 Gy.n, .int .i64 Gy.cap, .slice ay3 Gy.wt.length cy3, .slice ay4 Gy.vl.length cy4, .slice ay5 Gy.cost.length cy5] 25] _ := hM
 refine S.val hA (R.move rfl) rfl ?_; clear hA a; intro a hA
 refine S.val hA (R.move rfl) rfl ?_; clear hA a; intro a hA
 refine S.val hA (R.lenS Try.underlying22 rfl rfl) rfl ?_; clear hA a; intro a hA
 refine S.val hA (R.min rfl rfl) rfl ?_; clear hA a; intro a hA
 have hsl5 := hy.cutR ((min ((x.length : Int)) 70).toNat) (by omega)
 refine S.val hA (R.sliceHI (h := (min ((x.length : Int)) 70).toNat) hy Try.underlying22 info3 rfl rfl (by omega) (by omega)) rfl ?_; clear hA a; intro a hA
 refine S.appendI (k := 0) hA hM rfl (hsl5.mem hM) Try.underlying22 info3 rfl rfl rfl rfl rfl rfl (by first | (show (0 + _) * 8 ≤ (140737488355328 : Nat); omega) | (show (_ + 1) * 8 ≤ (140737488355328 : Nat); omega) | (rw [take_min70, List.length_take]; unfold maxLen; omega) | (rw [take_min70, List.length_take]; show (0 + _) * 8 ≤ (140737488355328 : Nat); omega) | omega | (unfold maxLen; omega)) (by first | (show (0 + _) * 8 ≤ (140737488355328 : Nat); omega) | (show (_ + 1) * 8 ≤ (140737488355328 : Nat); omega) | (rw [take_min70, List.length_take]; unfold maxLen; omega) | (rw [take_min70, List.length_take]; show (0 + _) * 8 ≤ (140737488355328 : Nat); omega) | omega | (unfold maxLen; omega)) rfl ?_; clear hA hM a; intro a6 c7 w5 hM a hA
 have hl8 : 0 + ((x.take ((min ((x.length : Int)) 70).toNat))).length = (((x.take ((min ((x.length : Int)) 70).toNat)))).length := by first | (simp; done) | simp only [List.length_append]
 rw [hl8, show (([] : List Int)).map (Value.int .i64) ++ ((x.take ((min ((x.length : Int)) 70).toNat))).map (Value.int .i64) = (((x.take ((min ((x.length : Int)) 70).toNat)))).map (Value.int .i64) by simp] at hM; rw [hl8] at hA; clear hl8
 replace hM : Mem _ _ [own 3 1 (.slice a6 ((((x.take ((min ((x.length : Int)) 70).toNat)))).length) c7) ((((x.take ((min ((x.length : Int)) 70).toNat)))).length) ((((x.take ((min ((x.length : Int)) 70).toNat)))).map (Value.int .i64)), bundle (insL 3 22 Gy ay3 cy3 ay4 cy4 ay5 cy5 rsy), pt b1 #[.int .i64 Gy.kind, .int .i64 Gy.n, .int .i64 Gy.cap, .slice ay3 Gy.wt.length cy3, .slice ay4 Gy.vl.length cy4, .slice ay5 Gy.cost.length cy5] 25] _ := hM
 refine S.val hA (R.assign rfl) rfl ?_; clear hA a; intro a hA
 refine S.done ?_
 obtain ⟨Y, hY⟩ : ∃ Y, Y = x.take 70 := ⟨_, rfl⟩
 rw [take_min70, ← hY] at hM hA
 replace hM : Mem _ _ [own 3 1 (.slice a6 Y.length c7) Y.length (Y.map (Value.int .i64)), bundle (insL 3 22 Gy ay3 cy3 ay4 cy4 ay5 cy5 rsy), pt b1 #[.int .i64 Gy.kind, .int .i64 Gy.n, .int .i64 Gy.cap, .slice ay3 Gy.wt.length cy3, .slice ay4 Gy.vl.length cy4, .slice ay5 Gy.cost.length cy5] 25] _ := hM
 have hcb := cost_bd Gy Y
 have hcl := (by rw [hY, List.length_take]; omega : Y.length ≤ 70)
 replace hA : St 158 [(1, _), (2, _)] a := hA.sub ((.cons rfl (.cons rfl .nil)))
 refine Ends.seq (Ends.region ?_)
 refine S.val hA (R.loadA sz25 rfl (hM.range (k := 2) rfl) rfl) rfl ?_; clear hA a; intro a hA
 refine S.val hA (R.move rfl) rfl ?_; clear hA a; intro a hA
 refine S.call hA (R.callF Try.func17 rfl rfl rfl) rfl (cost08 Gy ay3 cy3 ay4 cy4 ay5 cy5 a6 Y c7 ⟨by omega, by omega⟩ _ (insR_of hM (k := 1) rfl hYy).2.1 (insR_of hM (k := 1) rfl hYy).2.2.1 (insR_of hM (k := 1) rfl hYy).2.2.2 (hM.rsl (k := 0) (X := Y) rfl)) ?_; clear hA a
 rintro e w6 ⟨rfl, hb⟩
 replace hM := hM.callB hb; clear hb
 refine ⟨.tuple #[.int .i64 ((costI Gy Y).1), .int .i64 ((costI Gy Y).2)], rfl, fun a hA => ?_⟩
 refine S.val hA (R.move rfl) rfl ?_; clear hA a; intro a hA
 refine S.val hA (R.extract (v := .int .i64 ((costI Gy Y).1)) rfl rfl) rfl ?_; clear hA a; intro a hA
 refine S.val hA (R.extract (v := .int .i64 ((costI Gy Y).2)) rfl rfl) rfl ?_; clear hA a; intro a hA
 refine S.val hA (R.assign rfl) rfl ?_; clear hA a; intro a hA
 refine S.val hA (R.assign rfl) rfl ?_; clear hA a; intro a hA
 refine S.done ?_
 replace hA : St 158 [(1, _), (2, _), (5, _), (6, _)] a := hA.sub ((.cons rfl (.cons rfl (.cons rfl (.cons rfl .nil)))))
 refine Ends.seq (Ends.seq ?_)
 refine Ends.cut (fun (a : Act) (wv : World) => St 158 [(1, .slice a6 Y.length c7), (2, .pointer (some ⟨b1, 0, none⟩)), (5, .int .i64 ((costI Gy Y).1)), (43, .bool (decide ((((costI Gy Y).2) ≠ 0 ∨ Gy.kind = 1))))] a ∧ Mem w nof [own 3 1 (.slice a6 Y.length c7) Y.length (Y.map (Value.int .i64)), bundle (insL 3 22 Gy ay3 cy3 ay4 cy4 ay5 cy5 rsy), pt b1 #[.int .i64 Gy.kind, .int .i64 Gy.n, .int .i64 Gy.cap, .slice ay3 Gy.wt.length cy3, .slice ay4 Gy.vl.length cy4, .slice ay5 Gy.cost.length cy5] 25] wv) ?_ (fun k2 hJ => ?_)
 ·
  clear hA hM a; rintro a w7 ⟨hA, hM⟩
  refine Ends.ite hA rfl (fun hc9 => ?_) (fun hc9 => ?_)
  ·
   refine Ends.seq (Ends.region ?_)
   refine S.call hA (R.callF Try.func16 rfl rfl rfl) rfl (values_any _) ?_; clear hA a
   rintro e w8 ⟨rfl, hb⟩
   replace hM := hM.callB hb; clear hb
   refine ⟨.bool true, rfl, fun a hA => ?_⟩
   refine S.val hA (R.assign rfl) rfl ?_; clear hA a; intro a hA
   refine S.done ?_
   refine Ends.ret1 Try.func4 Try.results4 hA rfl ?_
   exact ⟨rfl, Mem.trans0 hbs hM.nilL⟩
  ·
   have hz0 : (costI Gy Y).2 = 0 := by omega
   have hGk : Gy.kind = 3 := by rw [hGy]; exact hk3
   have hzz := costI_chk hz0
   have hF := chk_inF hzz
   have hn1 := hF.n1
   have hn24 := hF.n24 (by omega)
   have f7 := hF.cost
   have hrw := hF.row
   have ho := cost_ord hz0 (by omega)
   obtain ⟨n, hnn⟩ : ∃ n : Nat, Gy.n = (n : Int) := ⟨Gy.n.toNat, by omega⟩
   have hnt : Gy.n.toNat = n := by omega
   rw [if_neg (by omega), hnt] at f7
   rw [hnt] at hrw
   have hYl : Y.length = n := by have := ho.1.1; omega
   have hcm := cost_mat hF (show Gy.kind ≠ 1 by omega)
   rw [hnt] at hcm
   refine Ends.skip (Ends.seq (Ends.seq (Ends.region ?_)))
   refine S.val hA (R.fieldAddr (q := 0) fi25_0 rfl rfl rfl) rfl ?_; clear hA a; intro a hA
   refine S.val hA (R.load sz3 rfl (hM.cell (k := 2) rfl rfl)) rfl ?_; clear hA a; intro a hA
   refine S.val hA (R.eql rfl rfl) rfl ?_; clear hA a; intro a hA
   refine S.done ?_
   refine Ends.ite hA rfl (fun hc10 => ?_) (fun hc10 => ?_)
   · omega
   ·
    refine Ends.skip (Ends.seq (Ends.seq (Ends.region ?_)))
    refine S.val hA (R.assign rfl) rfl ?_; clear hA a; intro a hA
    refine S.done ?_
    replace hA : St 158 [(1, _), (2, _), (12, _)] a := hA.sub ((.cons rfl (.cons rfl (.cons rfl .nil))))
    refine Ends.block ?_
    replace hM := hM.front (k := 2) rfl
    replace hM := hM.front (k := 2) rfl
    replace hM := hM.firstN 3
    replace hM := hM.unpack
    have hrl0 : rsy.length = n := by rw [← f7, ← hYy, List.length_map]
    have hrs0 : rsy.map (·.Y) = mat n (gS Gy 0 0) := by rw [hYy, hcm]; exact gS_zero
    replace hM : Mem _ _ [own 3 1 (.slice ay3 Gy.wt.length cy3) Gy.wt.length (Gy.wt.map (Value.int .i64)), own 3 1 (.slice ay4 Gy.vl.length cy4) Gy.vl.length (Gy.vl.map (Value.int .i64)), own 22 1 (.slice ay5 rsy.length cy5) rsy.length ((rsy.map orV)), bundle (rsy.map (orC 3)), pt b1 #[.int .i64 Gy.kind, .int .i64 Gy.n, .int .i64 Gy.cap, .slice ay3 Gy.wt.length cy3, .slice ay4 Gy.vl.length cy4, .slice ay5 Gy.cost.length cy5] 25, own 3 1 (.slice a6 Y.length c7) Y.length (Y.map (Value.int .i64))] _ := hM
    rw [f7, hrl0] at hM
    replace hM : Mem _ _ [own 3 1 (.slice ay3 Gy.wt.length cy3) Gy.wt.length (Gy.wt.map (Value.int .i64)), own 3 1 (.slice ay4 Gy.vl.length cy4) Gy.vl.length (Gy.vl.map (Value.int .i64)), own 22 1 (.slice ay5 n cy5) n ((rsy.map orV)), bundle (rsy.map (orC 3)), pt b1 #[.int .i64 Gy.kind, .int .i64 Gy.n, .int .i64 Gy.cap, .slice ay3 Gy.wt.length cy3, .slice ay4 Gy.vl.length cy4, .slice ay5 n cy5] 25, own 3 1 (.slice a6 Y.length c7) Y.length (Y.map (Value.int .i64))] _ := hM
    obtain ⟨gv, hgv_⟩ := hM.ownAt (k := 2) rfl (by omega)
    subst hgv_
    replace hM : Mem _ _ [own 3 1 (.slice ay3 Gy.wt.length cy3) Gy.wt.length (Gy.wt.map (Value.int .i64)), own 3 1 (.slice ay4 Gy.vl.length cy4) Gy.vl.length (Gy.vl.map (Value.int .i64)), own 22 1 (.slice ((some ⟨gv, 0, none⟩)) n cy5) n ((rsy.map orV)), bundle (rsy.map (orC 3)), pt b1 #[.int .i64 Gy.kind, .int .i64 Gy.n, .int .i64 Gy.cap, .slice ay3 Gy.wt.length cy3, .slice ay4 Gy.vl.length cy4, .slice ((some ⟨gv, 0, none⟩)) n cy5] 25, own 3 1 (.slice a6 Y.length c7) Y.length (Y.map (Value.int .i64))] _ := hM
    replace hM := hM.front (k := 5) rfl
    replace hM := hM.front (k := 4) rfl
    replace hM := hM.front (k := 4) rfl
    replace hM := hM.front (k := 4) rfl
    replace hM := hM.front (k := 4) rfl
    replace hM := hM.front (k := 5) rfl
    replace hM : Mem _ _ [pt b1 #[.int .i64 Gy.kind, .int .i64 Gy.n, .int .i64 Gy.cap, .slice ay3 Gy.wt.length cy3, .slice ay4 Gy.vl.length cy4, .slice ((some ⟨gv, 0, none⟩)) n cy5] 25, own 3 1 (.slice ay3 Gy.wt.length cy3) Gy.wt.length (Gy.wt.map (Value.int .i64)), own 3 1 (.slice ay4 Gy.vl.length cy4) Gy.vl.length (Gy.vl.map (Value.int .i64)), own 22 1 (.slice ((some ⟨gv, 0, none⟩)) n cy5) n ((rsy.map orV)), bundle (rsy.map (orC 3)), own 3 1 (.slice a6 Y.length c7) Y.length (Y.map (Value.int .i64))] _ := hM
    refine Ends.loop (σ := Nat × List OwR) (fun (z, rs) (a : Act) (wv : World) => St 158 [(1, .slice a6 Y.length c7), (2, .pointer (some ⟨b1, 0, none⟩)), (12, .int .i64 ((z : Int)))] a ∧ Mem w nof [pt b1 #[.int .i64 Gy.kind, .int .i64 Gy.n, .int .i64 Gy.cap, .slice ay3 Gy.wt.length cy3, .slice ay4 Gy.vl.length cy4, .slice ((some ⟨gv, 0, none⟩)) n cy5] 25, own 3 1 (.slice ay3 Gy.wt.length cy3) Gy.wt.length (Gy.wt.map (Value.int .i64)), own 3 1 (.slice ay4 Gy.vl.length cy4) Gy.vl.length (Gy.vl.map (Value.int .i64)), own 22 1 (.slice ((some ⟨gv, 0, none⟩)) n cy5) n ((rs.map orV)), bundle (rs.map (orC 3)), own 3 1 (.slice a6 Y.length c7) Y.length (Y.map (Value.int .i64))] wv ∧ (z ≤ n) ∧ (rs.map (·.Y) = mat n (gS Gy z 0))) (fun (z, rs) => n - z) ((0, rsy)) ⟨hA.sub ((.cons rfl (.cons rfl (.cons rfl .nil)))), hM, (Nat.zero_le _), hrs0⟩ ?_
    clear hA hM a
    rintro ⟨z, rs⟩ a w9 ⟨hA, hM, hz_, hYs⟩ hNext1
    refine Ends.seq (Ends.seq (Ends.region ?_))
    refine S.val hA (R.move rfl) rfl ?_; clear hA a; intro a hA
    refine S.val hA (R.fieldAddr (q := 1) fi25_1 rfl rfl rfl) rfl ?_; clear hA a; intro a hA
    refine S.val hA (R.load sz3 rfl (hM.cell (k := 0) rfl rfl)) rfl ?_; clear hA a; intro a hA
    refine S.val hA (R.lss rfl rfl) rfl ?_; clear hA a; intro a hA
    refine S.done ?_
    refine Ends.ite hA rfl (fun hc11 => ?_) (fun hc11 => ?_)
    ·
     have hzn : z < n := by omega
     refine Ends.skip (Ends.seq (Ends.block (Ends.seq (Ends.region ?_))))
     refine S.val hA (R.assign rfl) rfl ?_; clear hA a; intro a hA
     refine S.done ?_
     replace hA : St 158 [(1, _), (2, _), (12, _), (13, _)] a := hA.sub ((.cons rfl (.cons rfl (.cons rfl (.cons rfl .nil)))))
     refine Ends.block ?_
     refine Ends.loop (σ := Nat × List OwR) (fun (b, rs) (a : Act) (wv : World) => St 158 [(1, .slice a6 Y.length c7), (2, .pointer (some ⟨b1, 0, none⟩)), (12, .int .i64 ((z : Int))), (13, .int .i64 ((b : Int)))] a ∧ Mem w nof [pt b1 #[.int .i64 Gy.kind, .int .i64 Gy.n, .int .i64 Gy.cap, .slice ay3 Gy.wt.length cy3, .slice ay4 Gy.vl.length cy4, .slice ((some ⟨gv, 0, none⟩)) n cy5] 25, own 3 1 (.slice ay3 Gy.wt.length cy3) Gy.wt.length (Gy.wt.map (Value.int .i64)), own 3 1 (.slice ay4 Gy.vl.length cy4) Gy.vl.length (Gy.vl.map (Value.int .i64)), own 22 1 (.slice ((some ⟨gv, 0, none⟩)) n cy5) n ((rs.map orV)), bundle (rs.map (orC 3)), own 3 1 (.slice a6 Y.length c7) Y.length (Y.map (Value.int .i64))] wv ∧ (b ≤ z) ∧ (rs.map (·.Y) = mat n (gS Gy z b))) (fun (b, rs) => z - b) ((0, rs)) ⟨hA.sub ((.cons rfl (.cons rfl (.cons rfl (.cons rfl .nil))))), hM, (Nat.zero_le _), hYs⟩ ?_
     clear hA hM a
     rintro ⟨b, rs⟩ a w10 ⟨hA, hM, hb_, hYb⟩ hNext2
     refine Ends.seq (Ends.seq (Ends.region ?_))
     refine S.val hA (R.move rfl) rfl ?_; clear hA a; intro a hA
     refine S.val hA (R.move rfl) rfl ?_; clear hA a; intro a hA
     refine S.val hA (R.lss rfl rfl) rfl ?_; clear hA a; intro a hA
     refine S.done ?_
     refine Ends.ite hA rfl (fun hc12 => ?_) (fun hc12 => ?_)
     ·
      have hbz : b < z := by omega
      refine Ends.skip (Ends.seq (Ends.block ?_))
      obtain ⟨Yz, az, cz, hxz, hYz1, hYzl⟩ := row_of hYb hzn
      obtain ⟨Yb, ab, cb, hxb, hYb1, hYbl⟩ := row_of hYb (show b < n by omega)
      have hxb2 : (rs.eraseIdx z)[b]? = some ⟨Yb, ab, cb⟩ := by rw [List.getElem?_eraseIdx, if_pos hbz]; exact hxb
      replace hM := hM.front (k := 4) rfl
      replace hM := ((hM.openB hxz).front (k := 1) rfl).openB hxb2
      replace hM : Mem _ _ [own 3 1 (.slice ab Yb.length cb) Yb.length (Yb.map (Value.int .i64)), bundle (((rs.eraseIdx z).eraseIdx b).map (orC 3)), own 3 1 (.slice az Yz.length cz) Yz.length (Yz.map (Value.int .i64)), pt b1 #[.int .i64 Gy.kind, .int .i64 Gy.n, .int .i64 Gy.cap, .slice ay3 Gy.wt.length cy3, .slice ay4 Gy.vl.length cy4, .slice ((some ⟨gv, 0, none⟩)) n cy5] 25, own 3 1 (.slice ay3 Gy.wt.length cy3) Gy.wt.length (Gy.wt.map (Value.int .i64)), own 3 1 (.slice ay4 Gy.vl.length cy4) Gy.vl.length (Gy.vl.map (Value.int .i64)), own 22 1 (.slice ((some ⟨gv, 0, none⟩)) n cy5) n ((rs.map orV)), own 3 1 (.slice a6 Y.length c7) Y.length (Y.map (Value.int .i64))] _ := hM
      obtain ⟨gb, hgb⟩ := hM.ownAt (k := 0) rfl (by omega)
      obtain ⟨gz, hgz⟩ := hM.ownAt (k := 2) rfl (by omega)
      subst hgb
      subst hgz
      replace hM : Mem _ _ [own 3 1 (.slice ((some ⟨gb, 0, none⟩)) Yb.length cb) Yb.length (Yb.map (Value.int .i64)), bundle (((rs.eraseIdx z).eraseIdx b).map (orC 3)), own 3 1 (.slice ((some ⟨gz, 0, none⟩)) Yz.length cz) Yz.length (Yz.map (Value.int .i64)), pt b1 #[.int .i64 Gy.kind, .int .i64 Gy.n, .int .i64 Gy.cap, .slice ay3 Gy.wt.length cy3, .slice ay4 Gy.vl.length cy4, .slice ((some ⟨gv, 0, none⟩)) n cy5] 25, own 3 1 (.slice ay3 Gy.wt.length cy3) Gy.wt.length (Gy.wt.map (Value.int .i64)), own 3 1 (.slice ay4 Gy.vl.length cy4) Gy.vl.length (Gy.vl.map (Value.int .i64)), own 22 1 (.slice ((some ⟨gv, 0, none⟩)) n cy5) n ((rs.map orV)), own 3 1 (.slice a6 Y.length c7) Y.length (Y.map (Value.int .i64))] _ := hM
      refine Ends.drawn (Mem w nof [own 3 1 (.slice ((some ⟨gb, 0, none⟩)) Yb.length cb) Yb.length (Yb.map (Value.int .i64)), own 3 1 (.slice ((some ⟨gz, 0, none⟩)) Yz.length cz) Yz.length (Yz.map (Value.int .i64)), pt b1 #[.int .i64 Gy.kind, .int .i64 Gy.n, .int .i64 Gy.cap, .slice ay3 Gy.wt.length cy3, .slice ay4 Gy.vl.length cy4, .slice ((some ⟨gv, 0, none⟩)) n cy5] 25, own 3 1 (.slice ay3 Gy.wt.length cy3) Gy.wt.length (Gy.wt.map (Value.int .i64)), own 3 1 (.slice ay4 Gy.vl.length cy4) Gy.vl.length (Gy.vl.map (Value.int .i64)), own 22 1 (.slice ((some ⟨gv, 0, none⟩)) n cy5) n ((rs.map orV)), own 3 1 (.slice a6 Y.length c7) Y.length (Y.map (Value.int .i64))]) (.cons (0, true) (.cons (1, true) (.cons (2, true) (.cons (3, true) (.cons (4, true) (.cons (5, true) (.cons (6, true) (.cons (7, true) (.cons (8, true) (.cons (9, true) (.cons (10, true) (.cons (11, true) (.cons (12, true) (.cons (13, true) (.cons (14, true) (.cons (15, false) .nil)))))))))))))))) 15 mixed (by kernel_rfl) (by kernel_rfl) (by kernel_rfl) (hM.drop 1).drew ?_
      replace hM := hM.drew
      refine D.valF hA rfl (fun _ => R.fieldAddr (q := 5) fi25_5 rfl rfl rfl) rfl ?_; clear hA a; intro a hA
      refine D.val hA rfl (by kernel_rfl) (fun _ hM => R.load sz23 rfl (hM.cell (k := 2) rfl rfl)) rfl ?_; clear hA a; intro a hA
      refine D.valF hA rfl (fun _ => R.move rfl) rfl ?_; clear hA a; intro a hA
      refine D.valF hA rfl (fun _ => R.indexAddr (q := z) sl23 rfl rfl (by omega) (by omega)) rfl ?_; clear hA a; intro a hA
      refine D.val hA rfl (by kernel_rfl) (fun _ hM => R.load sz22 rfl (hM.ownCell (k := 5) rfl (orV_of hxz))) rfl ?_; clear hA a; intro a hA
      refine D.valF hA rfl (fun _ => R.move rfl) rfl ?_; clear hA a; intro a hA
      refine D.valF hA rfl (fun _ => R.fieldAddr (q := 5) fi25_5 rfl rfl rfl) rfl ?_; clear hA a; intro a hA
      refine D.val hA rfl (by kernel_rfl) (fun _ hM => R.load sz23 rfl (hM.cell (k := 2) rfl rfl)) rfl ?_; clear hA a; intro a hA
      refine D.valF hA rfl (fun _ => R.move rfl) rfl ?_; clear hA a; intro a hA
      refine D.valF hA rfl (fun _ => R.indexAddr (q := b) sl23 rfl rfl (by omega) (by omega)) rfl ?_; clear hA a; intro a hA
      refine D.val hA rfl (by kernel_rfl) (fun _ hM => R.load sz22 rfl (hM.ownCell (k := 5) rfl (orV_of hxb))) rfl ?_; clear hA a; intro a hA
      refine D.valF hA rfl (fun _ => R.move rfl) rfl ?_; clear hA a; intro a hA
      refine D.valF hA rfl (fun _ => R.indexAddr (q := z) sl22 rfl rfl (by omega) (by omega)) rfl ?_; clear hA a; intro a hA
      refine D.val hA rfl (by kernel_rfl) (fun _ hM => R.load sz3 rfl (hM.ownCell (k := 0) rfl (mapi_get _ _ (by omega)))) rfl ?_; clear hA a; intro a hA
      refine D.valF hA rfl (fun _ => R.indexAddr (q := b) sl22 rfl rfl (by omega) (by omega)) rfl ?_; clear hA a; intro a hA
      refine D.storeO (k := 2) hA hM rfl sz3 rfl rfl rfl rfl (mapi_get Yz b (by first | omega | (simp only [List.length_set]; omega) | (simp; done))) ?_; clear hM; intro w11 hM; rw [mapi_set] at hM
      refine ⟨fun _ hne => absurd rfl hne, ?_⟩
      replace hM : Mem _ _ [own 3 1 (.slice ((some ⟨gb, 0, none⟩)) Yb.length cb) Yb.length (Yb.map (Value.int .i64)), bundle (((rs.eraseIdx z).eraseIdx b).map (orC 3)), own 3 1 (.slice ((some ⟨gz, 0, none⟩)) Yz.length cz) Yz.length (((Yz.set b (Yb.getD z 0))).map (Value.int .i64)), pt b1 #[.int .i64 Gy.kind, .int .i64 Gy.n, .int .i64 Gy.cap, .slice ay3 Gy.wt.length cy3, .slice ay4 Gy.vl.length cy4, .slice ((some ⟨gv, 0, none⟩)) n cy5] 25, own 3 1 (.slice ay3 Gy.wt.length cy3) Gy.wt.length (Gy.wt.map (Value.int .i64)), own 3 1 (.slice ay4 Gy.vl.length cy4) Gy.vl.length (Gy.vl.map (Value.int .i64)), own 22 1 (.slice ((some ⟨gv, 0, none⟩)) n cy5) n ((rs.map orV)), own 3 1 (.slice a6 Y.length c7) Y.length (Y.map (Value.int .i64))] _ := hM
      refine D.done ?_
      replace hM := hM.front (k := 7) rfl
      replace hM := hM.front (k := 7) rfl
      replace hM := hM.front (k := 7) rfl
      replace hM := hM.front (k := 7) rfl
      replace hM := hM.front (k := 7) rfl
      replace hM := hM.front (k := 7) rfl
      replace hM := hM.front (k := 7) rfl
      replace hM := hM.front (k := 7) rfl
      replace hM := hM.firstN 8
      replace hM := closeSameV (f := orC 3) (x := ⟨Yb, some ⟨gb, 0, none⟩, cb⟩) hM hxb2
      have hsb : ((Yz.set b (Yb.getD z 0))).length = Yz.length := List.length_set
      rw [← hsb] at hM
      replace hM := hM.front (k := 1) rfl
      replace hM := Mem.closeB (f := orC 3) (y := (⟨(Yz.set b (Yb.getD z 0)), (some ⟨gz, 0, none⟩), cz⟩ : OwR)) hM hxz
      rw [← setV hxz (u := (⟨(Yz.set b (Yb.getD z 0)), (some ⟨gz, 0, none⟩), cz⟩ : OwR)) (by show Value.slice _ _ _ = Value.slice _ _ _; rw [hsb])] at hM
      replace hM : Mem _ _ [bundle ((rs.set z (⟨(Yz.set b (Yb.getD z 0)), (some ⟨gz, 0, none⟩), cz⟩ : OwR)).map (orC 3)), pt b1 #[.int .i64 Gy.kind, .int .i64 Gy.n, .int .i64 Gy.cap, .slice ay3 Gy.wt.length cy3, .slice ay4 Gy.vl.length cy4, .slice ((some ⟨gv, 0, none⟩)) n cy5] 25, own 3 1 (.slice ay3 Gy.wt.length cy3) Gy.wt.length (Gy.wt.map (Value.int .i64)), own 3 1 (.slice ay4 Gy.vl.length cy4) Gy.vl.length (Gy.vl.map (Value.int .i64)), own 22 1 (.slice ((some ⟨gv, 0, none⟩)) n cy5) n (((rs.set z (⟨(Yz.set b (Yb.getD z 0)), (some ⟨gz, 0, none⟩), cz⟩ : OwR)).map orV)), own 3 1 (.slice a6 Y.length c7) Y.length (Y.map (Value.int .i64))] _ := hM
      have hv9 : (Yb.getD z 0) = cel Gy b z := by rw [hYb1]; rw [show ((List.range n).map (gS Gy z b b)).getD z 0 = gS Gy z b b z by simp [List.getD, hzn], gS_at hbz]
      have hY3 : (rs.set z (⟨(Yz.set b (Yb.getD z 0)), (some ⟨gz, 0, none⟩), cz⟩ : OwR)).map (·.Y) = mat n (gS Gy z (b + 1)) := by
       have h1 := rows_setCell (a := z) (b := b) (x := (Yb.getD z 0)) (u := (⟨(Yz.set b (Yb.getD z 0)), (some ⟨gz, 0, none⟩), cz⟩ : OwR)) hYb (by rw [← hYz1])
       refine h1.trans ?_
       rw [hv9]
       exact gS_step hbz
      replace hA : St 158 [(1, _), (2, _), (12, _), (13, _)] a := hA.sub ((.cons rfl (.cons rfl (.cons rfl (.cons rfl .nil)))))
      refine Ends.inBlock (Ends.region ?_)
      refine S.val hA (R.move rfl) rfl ?_; clear hA a; intro a hA
      refine S.val hA (R.addI rfl rfl (r := ((b + 1 : Nat) : Int)) (by omega) (by omega)) rfl ?_; clear hA a; intro a hA
      refine S.val hA (R.assign rfl) rfl ?_; clear hA a; intro a hA
      refine S.done ?_
      replace hM := hM.front (k := 5) rfl
      replace hM := hM.front (k := 1) rfl
      replace hM := hM.front (k := 5) rfl
      replace hM := hM.front (k := 5) rfl
      replace hM := hM.front (k := 5) rfl
      replace hM := hM.front (k := 5) rfl
      replace hM : Mem _ _ [pt b1 #[.int .i64 Gy.kind, .int .i64 Gy.n, .int .i64 Gy.cap, .slice ay3 Gy.wt.length cy3, .slice ay4 Gy.vl.length cy4, .slice ((some ⟨gv, 0, none⟩)) n cy5] 25, own 3 1 (.slice ay3 Gy.wt.length cy3) Gy.wt.length (Gy.wt.map (Value.int .i64)), own 3 1 (.slice ay4 Gy.vl.length cy4) Gy.vl.length (Gy.vl.map (Value.int .i64)), own 22 1 (.slice ((some ⟨gv, 0, none⟩)) n cy5) n (((rs.set z (⟨(Yz.set b (Yb.getD z 0)), (some ⟨gz, 0, none⟩), cz⟩ : OwR)).map orV)), bundle ((rs.set z (⟨(Yz.set b (Yb.getD z 0)), (some ⟨gz, 0, none⟩), cz⟩ : OwR)).map (orC 3)), own 3 1 (.slice a6 Y.length c7) Y.length (Y.map (Value.int .i64))] _ := hM
      exact hNext2 ((b + 1, (rs.set z (⟨(Yz.set b (Yb.getD z 0)), (some ⟨gz, 0, none⟩), cz⟩ : OwR)))) _ _ ((by show z - (b + 1) < z - b; omega)) ⟨hA.sub ((.cons rfl (.cons rfl (.cons rfl (.cons rfl .nil))))), hM, (by omega), hY3⟩
     ·
      have hbz : b = z := by omega
      refine Ends.exit rfl ?_
      replace hA : St 158 [(1, _), (2, _), (12, _)] a := hA.sub ((.cons rfl (.cons rfl (.cons rfl .nil))))
      refine Ends.inBlock (Ends.region ?_)
      refine S.val hA (R.move rfl) rfl ?_; clear hA a; intro a hA
      refine S.val hA (R.addI rfl rfl (r := ((z + 1 : Nat) : Int)) (by omega) (by omega)) rfl ?_; clear hA a; intro a hA
      refine S.val hA (R.assign rfl) rfl ?_; clear hA a; intro a hA
      refine S.done ?_
      replace hM := hM.front (k := 5) rfl
      replace hM := hM.front (k := 5) rfl
      replace hM := hM.front (k := 5) rfl
      replace hM := hM.front (k := 5) rfl
      replace hM := hM.front (k := 5) rfl
      replace hM := hM.front (k := 5) rfl
      replace hM : Mem _ _ [pt b1 #[.int .i64 Gy.kind, .int .i64 Gy.n, .int .i64 Gy.cap, .slice ay3 Gy.wt.length cy3, .slice ay4 Gy.vl.length cy4, .slice ((some ⟨gv, 0, none⟩)) n cy5] 25, own 3 1 (.slice ay3 Gy.wt.length cy3) Gy.wt.length (Gy.wt.map (Value.int .i64)), own 3 1 (.slice ay4 Gy.vl.length cy4) Gy.vl.length (Gy.vl.map (Value.int .i64)), own 22 1 (.slice ((some ⟨gv, 0, none⟩)) n cy5) n ((rs.map orV)), bundle (rs.map (orC 3)), own 3 1 (.slice a6 Y.length c7) Y.length (Y.map (Value.int .i64))] _ := hM
      rw [hbz] at hYb
      exact hNext1 ((z + 1, rs)) _ _ ((by show n - (z + 1) < n - z; omega)) ⟨hA.sub ((.cons rfl (.cons rfl (.cons rfl .nil)))), hM, (by omega), (hYb.trans gS_row)⟩
    ·
     have hzn : z = n := by omega
     refine Ends.exit rfl ?_
     replace hA : St 158 [(1, _), (2, _)] a := hA.sub ((.cons rfl (.cons rfl .nil)))
     refine Ends.seq ?_
     replace hM := hM.front (k := 5) rfl
     replace hM := hM.front (k := 5) rfl
     replace hM := hM.front (k := 5) rfl
     replace hM := hM.front (k := 5) rfl
     replace hM := hM.front (k := 5) rfl
     replace hM := hM.front (k := 5) rfl
     replace hM : Mem _ _ [pt b1 #[.int .i64 Gy.kind, .int .i64 Gy.n, .int .i64 Gy.cap, .slice ay3 Gy.wt.length cy3, .slice ay4 Gy.vl.length cy4, .slice ((some ⟨gv, 0, none⟩)) n cy5] 25, own 3 1 (.slice ay3 Gy.wt.length cy3) Gy.wt.length (Gy.wt.map (Value.int .i64)), own 3 1 (.slice ay4 Gy.vl.length cy4) Gy.vl.length (Gy.vl.map (Value.int .i64)), own 22 1 (.slice ((some ⟨gv, 0, none⟩)) n cy5) n ((rs.map orV)), bundle (rs.map (orC 3)), own 3 1 (.slice a6 Y.length c7) Y.length (Y.map (Value.int .i64))] _ := hM
     replace hM := hM.front (k := 5) rfl
     replace hM := hM.front (k := 1) rfl
     replace hM := hM.front (k := 5) rfl
     replace hM := hM.front (k := 5) rfl
     replace hM := hM.front (k := 5) rfl
     replace hM := hM.front (k := 5) rfl
     rw [hzn] at hYs
     have hYm : rs.map (·.Y) = (symI Gy).cost := by rw [hYs, gS_all]; unfold symI; rw [hnt]
     have hlrm : rs.length = n := rows_len hYs
     have hlaw := sym_law hGk hz0
     rw [hnt] at hlaw
     rw [← hlrm] at hM
     replace hM := Mem.pack (cs := insL 3 22 (symI Gy) ay3 cy3 ay4 cy4 (some ⟨gv, 0, none⟩) cy5 rs) (L := [pt b1 #[.int .i64 Gy.kind, .int .i64 Gy.n, .int .i64 Gy.cap, .slice ay3 Gy.wt.length cy3, .slice ay4 Gy.vl.length cy4, .slice ((some ⟨gv, 0, none⟩)) rs.length cy5] 25, own 3 1 (.slice a6 Y.length c7) Y.length (Y.map (Value.int .i64))]) hM
     obtain ⟨-, hy3, hy4, hy5⟩ := insR_of hM (k := 0) rfl hYm
     replace hM := hM.drop 0
     have hlct : rs.length = (symI Gy).cost.length := by rw [← hYm, List.length_map]
     rw [hlct] at hM
     replace hM : Mem _ _ [pt b1 #[.int .i64 ((symI Gy).kind), .int .i64 ((symI Gy).n), .int .i64 ((symI Gy).cap), .slice ay3 (((symI Gy).wt).length) cy3, .slice ay4 (((symI Gy).vl).length) cy4, .slice ((some ⟨gv, 0, none⟩)) (((symI Gy).cost).length) cy5] 25, own 3 1 (.slice a6 Y.length c7) Y.length (Y.map (Value.int .i64))] _ := hM
     have hr1 : (symI Gy).wt.length ≤ 70 := hsmy.1
     have hr2 : (symI Gy).vl.length ≤ 70 := hsmy.2.1
     have hTn : (symI Gy).n = (n : Int) := hnn
     obtain ⟨T, hT⟩ : ∃ T, symI Gy = T := ⟨_, rfl⟩
     rw [hT] at hM hy3 hy4 hy5 hlaw hr1 hr2 hTn
     replace hM : Mem _ _ [pt b1 #[.int .i64 T.kind, .int .i64 T.n, .int .i64 T.cap, .slice ay3 T.wt.length cy3, .slice ay4 T.vl.length cy4, .slice ((some ⟨gv, 0, none⟩)) T.cost.length cy5] 25, own 3 1 (.slice a6 Y.length c7) Y.length (Y.map (Value.int .i64))] _ := hM
     have hbx13 := hM.block (k := 0) rfl
     have hbx14 := hM.rsl (k := 1) rfl
     have hbs := hbs.trans (hM.below.mono hbs.size)
     have hx3 := hx3.mem hM
     have hx4 := hx4.mem hM
     have hx5 := hx5.mem hM
     have hy := hy.mem hM
     have hsl5 := hsl5.mem hM
     replace hM := Mem.start w9
     refine Ends.region ?_
     refine S.val hA (R.loadA sz25 rfl (hM.oldRange hbx13) rfl) rfl ?_; clear hA a; intro a hA
     refine S.val hA (R.move rfl) rfl ?_; clear hA a; intro a hA
     refine S.call hA (R.callF Try.func17 rfl rfl rfl) rfl (cost08 T ay3 cy3 ay4 cy4 ((some ⟨gv, 0, none⟩)) cy5 a6 Y c7 ⟨by omega, by omega⟩ _ (hy3.mem hM) (hy4.mem hM) (hy5.mem hM) (hbx14.mem hM)) ?_; clear hA a
     rintro e w12 ⟨rfl, hb⟩
     replace hM := hM.callB hb; clear hb
     refine ⟨.tuple #[.int .i64 ((costI T Y).1), .int .i64 ((costI T Y).2)], rfl, fun a hA => ?_⟩
     refine S.val hA (R.move rfl) rfl ?_; clear hA a; intro a hA
     refine S.val hA (R.extract (v := .int .i64 ((costI T Y).1)) rfl rfl) rfl ?_; clear hA a; intro a hA
     refine S.val hA (R.extract (v := .int .i64 ((costI T Y).2)) rfl rfl) rfl ?_; clear hA a; intro a hA
     refine S.val hA (R.assign rfl) rfl ?_; clear hA a; intro a hA
     refine S.done ?_
     replace hA : St 158 [(1, _), (2, _), (5, _)] a := hA.sub ((.cons rfl (.cons rfl (.cons rfl .nil))))
     refine Ends.seq (Ends.region ?_)
     refine S.buildSl (cells := #[.int .i64 0]) hA hM Try.underlying22 info3 rfl rfl rfl rfl (by kernel_rfl) rfl ?_; clear hA hM a; intro b15 w13 hb16 hM a hA
     replace hM : Mem _ _ [pt b15 #[.int .i64 0] 3] _ := hM
     refine S.val hA (R.assign rfl) rfl ?_; clear hA a; intro a hA
     refine S.done ?_
     refine Ends.seq (Ends.seq (Ends.region ?_))
     refine S.val hA (R.fieldAddr (q := 1) fi25_1 rfl rfl rfl) rfl ?_; clear hA a; intro a hA
     refine S.val hA (R.load sz3 rfl (hM.cellB hbx13 rfl)) rfl ?_; clear hA a; intro a hA
     refine S.val hA (R.subI rfl rfl (r := ((n : Int) - 1 - ((0 : Nat) : Int))) (by omega) (by omega)) rfl ?_; clear hA a; intro a hA
     refine S.val hA (R.assign rfl) rfl ?_; clear hA a; intro a hA
     refine S.done ?_
     replace hA : St 158 [(1, _), (2, _), (5, _), (14, _), (15, _)] a := hA.sub ((.cons rfl (.cons rfl (.cons rfl (.cons rfl (.cons rfl .nil))))))
     refine Ends.block ?_
     replace hM := hM.ownPt (cap := 1) (n := 1) (sz := 1) (xs := [.int .i64 0]) rfl (by decide) (by decide) rfl
     replace hM : Mem _ _ [own 3 1 (.slice ((some ⟨b15, 0, none⟩)) (((tuM Y n 0)).length) 1) (((tuM Y n 0)).length) (((tuM Y n 0)).map (Value.int .i64))] _ := hM
     refine Ends.loop (σ := Nat × Option Addr × Nat) (fun (m, ya, yc) (a : Act) (wv : World) => St 158 [(1, .slice a6 Y.length c7), (2, .pointer (some ⟨b1, 0, none⟩)), (5, .int .i64 ((costI T Y).1)), (14, .slice ya ((tuM Y n m).length) yc), (15, .int .i64 (((n : Int) - 1 - (m : Int))))] a ∧ Mem w9 nof [own 3 1 (.slice ya (((tuM Y n m)).length) yc) (((tuM Y n m)).length) (((tuM Y n m)).map (Value.int .i64))] wv ∧ (m ≤ n - 1)) (fun (m, ya, yc) => n - m) ((0, (some ⟨b15, 0, none⟩), 1)) ⟨hA.sub ((.cons rfl (.cons rfl (.cons rfl (.cons rfl (.cons rfl .nil)))))), hM, (Nat.zero_le _)⟩ ?_
     clear hA hM a
     rintro ⟨m, ya, yc⟩ a w14 ⟨hA, hM, hm_⟩ hNext3
     refine Ends.seq (Ends.seq (Ends.region ?_))
     refine S.val hA (R.move rfl) rfl ?_; clear hA a; intro a hA
     refine S.val hA (R.gtr rfl rfl) rfl ?_; clear hA a; intro a hA
     refine S.done ?_
     refine Ends.ite hA rfl (fun hc17 => ?_) (fun hc17 => ?_)
     ·
      have hmn : m < n - 1 := by omega
      refine Ends.skip (Ends.seq (Ends.block ?_))
      have htl := tuM_len Y n m
      refine Ends.region ?_
      refine S.val hA (R.move rfl) rfl ?_; clear hA a; intro a hA
      refine S.val hA (R.move rfl) rfl ?_; clear hA a; intro a hA
      refine S.val hA (R.move rfl) rfl ?_; clear hA a; intro a hA
      refine S.val hA (R.idxI hbx14 (j := (n - 1 - m)) sl22 rfl rfl (by omega) (by omega)) rfl ?_; clear hA a; intro a hA
      refine S.val hA (R.loadI (hbx14.mem hM) sz3 rfl (by omega)) rfl ?_; clear hA a; intro a hA
      refine S.buildSl (cells := #[.int .i64 (Y.getD ((n - 1 - m)) 0)]) hA hM Try.underlying22 info3 rfl rfl rfl rfl (by kernel_rfl) rfl ?_; clear hA hM a; intro b18 w15 hb19 hM a hA
      replace hM : Mem _ _ [pt b18 #[.int .i64 (Y.getD ((n - 1 - m)) 0)] 3, own 3 1 (.slice ya (((tuM Y n m)).length) yc) (((tuM Y n m)).length) (((tuM Y n m)).map (Value.int .i64))] _ := hM
      refine S.append (k := 1) (k2 := 0) hA hM rfl rfl Try.underlying22 info3 rfl rfl rfl rfl rfl rfl rfl rfl rfl (by first | (show (0 + _) * 8 ≤ (140737488355328 : Nat); omega) | (show (_ + 1) * 8 ≤ (140737488355328 : Nat); omega) | (rw [take_min70, List.length_take]; unfold maxLen; omega) | (rw [take_min70, List.length_take]; show (0 + _) * 8 ≤ (140737488355328 : Nat); omega) | omega | (unfold maxLen; omega)) (by first | (show (0 + _) * 8 ≤ (140737488355328 : Nat); omega) | (show (_ + 1) * 8 ≤ (140737488355328 : Nat); omega) | (rw [take_min70, List.length_take]; unfold maxLen; omega) | (rw [take_min70, List.length_take]; show (0 + _) * 8 ≤ (140737488355328 : Nat); omega) | omega | (unfold maxLen; omega)) rfl ?_; clear hA hM a; intro a20 c21 w16 hM a hA
      replace hM : Mem _ _ [pt b18 #[.int .i64 (Y.getD ((n - 1 - m)) 0)] 3, own 3 1 (.slice a20 ((((tuM Y n m)).length) + 1) c21) ((((tuM Y n m)).length) + 1) (((tuM Y n m)).map (Value.int .i64) ++ [.int .i64 (Y.getD ((n - 1 - m)) 0)])] _ := hM
      have hl22 : (((tuM Y n m)).length) + 1 = ((tuM Y n m) ++ [Y.getD ((n - 1 - m)) 0]).length := by simp
      rw [hl22, show ((tuM Y n m)).map (Value.int .i64) ++ [.int .i64 (Y.getD ((n - 1 - m)) 0)] = ((tuM Y n m) ++ [Y.getD ((n - 1 - m)) 0]).map (Value.int .i64) by simp] at hM; rw [hl22] at hA
      clear hl22
      replace hM := hM.drop 0
      replace hM : Mem _ _ [own 3 1 (.slice a20 ((((tuM Y n m) ++ [Y.getD ((n - 1 - m)) 0])).length) c21) ((((tuM Y n m) ++ [Y.getD ((n - 1 - m)) 0])).length) ((((tuM Y n m) ++ [Y.getD ((n - 1 - m)) 0])).map (Value.int .i64))] _ := hM
      refine S.val hA (R.assign rfl) rfl ?_; clear hA a; intro a hA
      refine S.done ?_
      replace hA : St 158 [(1, _), (2, _), (5, _), (14, _), (15, _)] a := hA.sub ((.cons rfl (.cons rfl (.cons rfl (.cons rfl (.cons rfl .nil))))))
      refine Ends.inBlock (Ends.region ?_)
      refine S.val hA (R.move rfl) rfl ?_; clear hA a; intro a hA
      refine S.val hA (R.subI rfl rfl (r := ((n : Int) - 1 - ((m + 1 : Nat) : Int))) (by omega) (by omega)) rfl ?_; clear hA a; intro a hA
      refine S.val hA (R.assign rfl) rfl ?_; clear hA a; intro a hA
      refine S.done ?_
      rw [tuM_step] at hM hA
      replace hM : Mem _ _ [own 3 1 (.slice a20 (((tuM Y n (m + 1))).length) c21) (((tuM Y n (m + 1))).length) (((tuM Y n (m + 1))).map (Value.int .i64))] _ := hM
      exact hNext3 ((m + 1, a20, c21)) _ _ ((by show n - (m + 1) < n - m; omega)) ⟨hA.sub ((.cons rfl (.cons rfl (.cons rfl (.cons rfl (.cons rfl .nil)))))), hM, (by omega)⟩
     ·
      have hmn : m = n - 1 := by omega
      refine Ends.exit rfl ?_
      replace hA : St 158 [(2, _), (5, _), (14, _)] a := hA.sub ((.cons rfl (.cons rfl (.cons rfl .nil))))
      refine Ends.seq ?_
      rw [hmn, tuM_all] at hM hA
      replace hM : Mem _ _ [own 3 1 (.slice ya (((turX Y n)).length) yc) (((turX Y n)).length) (((turX Y n)).map (Value.int .i64))] _ := hM
      have hbx23 := hM.rsl (k := 0) rfl
      have hbs := hbs.trans (hM.below.mono hbs.size)
      have hx3 := hx3.mem hM
      have hx4 := hx4.mem hM
      have hx5 := hx5.mem hM
      have hy := hy.mem hM
      have hsl5 := hsl5.mem hM
      have hbx14 := hbx14.mem hM
      have hy3 := hy3.mem hM
      have hy4 := hy4.mem hM
      have hy5 := hy5.mem hM
      have hbx13 := hM.keepB hbx13
      replace hM := Mem.start w14
      refine Ends.region ?_
      refine S.val hA (R.loadA sz25 rfl (hM.oldRange hbx13) rfl) rfl ?_; clear hA a; intro a hA
      refine S.val hA (R.move rfl) rfl ?_; clear hA a; intro a hA
      refine S.call hA (R.callF Try.func17 rfl rfl rfl) rfl (cost08 T ay3 cy3 ay4 cy4 ((some ⟨gv, 0, none⟩)) cy5 ya ((turX Y n)) yc ⟨by omega, by omega⟩ _ (hy3.mem hM) (hy4.mem hM) (hy5.mem hM) (hbx23.mem hM)) ?_; clear hA a
      rintro e w17 ⟨rfl, hb⟩
      replace hM := hM.callB hb; clear hb
      refine ⟨.tuple #[.int .i64 ((costI T ((turX Y n))).1), .int .i64 ((costI T ((turX Y n))).2)], rfl, fun a hA => ?_⟩
      refine S.val hA (R.move rfl) rfl ?_; clear hA a; intro a hA
      refine S.val hA (R.extract (v := .int .i64 ((costI T ((turX Y n))).1)) rfl rfl) rfl ?_; clear hA a; intro a hA
      refine S.val hA (R.extract (v := .int .i64 ((costI T ((turX Y n))).2)) rfl rfl) rfl ?_; clear hA a; intro a hA
      refine S.val hA (R.assign rfl) rfl ?_; clear hA a; intro a hA
      refine S.val hA (R.assign rfl) rfl ?_; clear hA a; intro a hA
      refine S.done ?_
      replace hA : St 158 [(5, _), (16, _), (17, _)] a := hA.sub ((.cons rfl (.cons rfl (.cons rfl .nil))))
      refine Ends.seq (Ends.region ?_)
      refine S.val hA (R.move rfl) rfl ?_; clear hA a; intro a hA
      refine S.val hA (R.tt (R.eql rfl rfl) (by rw [hlaw])) rfl ?_; clear hA a; intro a hA
      refine S.val hA (R.move rfl) rfl ?_; clear hA a; intro a hA
      refine S.valg (dj := 153) hA (by kernel_rfl) rfl (R.move rfl) rfl ?_; clear hA a; intro a hA
      refine S.valg (dj := 153) hA (by kernel_rfl) rfl (R.move rfl) rfl ?_; clear hA a; intro a hA
      refine S.valg (dj := 153) hA (by kernel_rfl) rfl (R.tt (R.eql rfl rfl) (by rw [hlaw])) rfl ?_; clear hA a; intro a hA
      refine S.val hA (R.pickT rfl rfl) rfl ?_; clear hA a; intro a hA
      refine S.val hA (R.assign rfl) rfl ?_; clear hA a; intro a hA
      refine S.done ?_
      replace hA : St 158 [(4, _)] a := hA.sub ((.cons rfl .nil))
      refine Ends.ret1 Try.func4 Try.results4 hA rfl ?_
      exact ⟨rfl, Mem.trans0 hbs hM.nilL⟩
 ·
  refine Ends.region ?_
  refine S.call hA (R.callF Try.func16 rfl rfl rfl) rfl (values_any _) ?_; clear hA a
  rintro e w18 ⟨rfl, hb⟩
  replace hM := hM.callB hb; clear hb
  refine ⟨.bool true, rfl, fun a hA => ?_⟩
  refine S.val hA (R.not rfl) rfl ?_; clear hA a; intro a hA
  refine S.val hA (R.move rfl) rfl ?_; clear hA a; intro a hA
  refine S.valg (dj := 35) hA (by kernel_rfl) rfl (R.move rfl) rfl ?_; clear hA a; intro a hA
  refine S.valg (dj := 35) hA (by kernel_rfl) rfl (R.neq rfl rfl) rfl ?_; clear hA a; intro a hA
  refine S.val hA (R.pickF rfl rfl) rfl ?_; clear hA a; intro a hA
  refine S.val hA (R.move rfl) rfl ?_; clear hA a; intro a hA
  refine hA.split (d := 39) rfl ?_ ?_
  ·
   clear hA; intro hg24 hA
   refine S.no (dj := 39) hA (by kernel_rfl) rfl rfl rfl ?_; clear hA a; intro a hA
   refine S.no (dj := 39) hA (by kernel_rfl) rfl rfl rfl ?_; clear hA a; intro a hA
   refine S.no (dj := 39) hA (by kernel_rfl) rfl rfl rfl ?_; clear hA a; intro a hA
   refine S.val hA (R.pickT rfl rfl) rfl ?_; clear hA a; intro a hA
   refine S.done ?_
   replace hA : St 158 [(1, _), (2, _), (5, _), (43, _)] a := hA.sub ((.cons rfl (.cons rfl (.cons rfl (.cons rfl .nil)))))
   exact hJ _ _ ⟨hA.sub (.cons rfl (.cons rfl (.cons rfl (.cons (by first | rfl | exact congrArg (fun b => some (Value.bool b)) (by first | exact decide_eq_decide.2 (by omega) | exact or_bool (by omega) | exact and_bool (by omega) | (simp; done) | (simp [hg24]; done) | (have h80 := hg24; (try simp at h80); simp [h80]; done) | exact (decide_eq_false (fun h9 => hg24 h9.1)).symm)) .nil)))), hM⟩
  ·
   clear hA; intro hg24 hA
   refine S.valg (dj := 39) hA (by kernel_rfl) rfl (R.fieldAddr (q := 0) fi25_0 rfl rfl rfl) rfl ?_; clear hA a; intro a hA
   refine S.valg (dj := 39) hA (by kernel_rfl) rfl (R.load sz3 rfl (hM.cell (k := 2) rfl rfl)) rfl ?_; clear hA a; intro a hA
   refine S.valg (dj := 39) hA (by kernel_rfl) rfl (R.eql rfl rfl) rfl ?_; clear hA a; intro a hA
   refine S.val hA (R.pickF rfl rfl) rfl ?_; clear hA a; intro a hA
   refine S.done ?_
   replace hA : St 158 [(1, _), (2, _), (5, _), (43, _)] a := hA.sub ((.cons rfl (.cons rfl (.cons rfl (.cons rfl .nil)))))
   exact hJ _ _ ⟨hA.sub (.cons rfl (.cons rfl (.cons rfl (.cons (by first | rfl | exact congrArg (fun b => some (Value.bool b)) (by first | exact decide_eq_decide.2 (by omega) | exact or_bool (by omega) | exact and_bool (by omega) | (simp; done) | (simp [hg24]; done) | (have h80 := hg24; (try simp at h80); simp [h80]; done) | exact (decide_eq_false (fun h9 => hg24 h9.1)).symm)) .nil)))), hM⟩
theorem valueTurns_w (i : Ins) (ax3 : Option Addr) (cx3 : Nat) (ax4 : Option Addr) (cx4 : Nat) (ax5 : Option Addr) (cx5 : Nat) (ay : Option Addr) (x : List Int) (cy : Nat) (w : World) (hx3 : IntSl w (.slice ax3 i.wt.length cx3) i.wt) (hx4 : IntSl w (.slice ax4 i.vl.length cx4) i.vl) (hx5 : RowsV w (.slice ax5 i.cost.length cx5) i.cost) (hy : IntSl w (.slice ay x.length cy) x) : Calls Try.prog 4 #[.agg #[.int .i64 i.kind, .int .i64 i.n, .int .i64 i.cap, .slice ax3 i.wt.length cx3, .slice ax4 i.vl.length cx4, .slice ax5 i.cost.length cx5], .slice ay x.length cy] w (fun e w' => e = .returned (.bool true) ∧ Below w.heap.size w w') := by
  by_cases hk3 : i.kind = 3
  · exact valueTurns_3 i ax3 cx3 ax4 cx4 ax5 cx5 ay x cy hk3 w hx3 hx4 hx5 hy
  · exact valueTurns_2 i ax3 cx3 ax4 cx4 ax5 cx5 ay x cy hk3 w hx3 hx4 hx5 hy
theorem valueTurns_any (v : Value) (i : Ins) (v1 : Value) (x : List Int) (w : World) (h1 : InsV w v i) (_h2 : wfI i) (hx : IntSl w v1 x) (_hw : ∀ y ∈ x, (Lit.int .i64 y).wf = true) :
    Calls Try.prog 4 #[v, v1] w fun e w' => e = .returned (.bool true) ∧ Below w.heap.size w w' := by
  obtain ⟨aw, cw, av, cv, ac, cc, rfl, h3, h4, h5⟩ := h1.parts
  obtain ⟨ay, cy, rfl, -⟩ := hx.form
  exact valueTurns_w i aw cw av cv ac cc ay x cy w h3 h4 h5 hx
end Go.Proofs.Ytnikajkklocncaa
namespace Go.Proofs.Ytnikajkklocncaa
open Go.RowKit Go.WideShapes Go.ChangeShapes
section
variable {H : Type} {enc : TypeId × Value → H} {P : Program} {w : World} {base : Nat} {spare : Nat → Bool} {held : Bool}
theorem open_sli {r : Reach} {b0 : Nat} {t e : TypeId} {v : Value} {d : DataW H} {p : List MemPlace} (ht : P.underlying t = some (.slice e)) (he : P.underlying e = some (.int .i64)) (hce : P.cellsOf e = 1)
    (hv : Value.okWide P w r b0 t v) (h : DataW.Trod enc P w 0 (fun _ => true) held t v d p) :
    ∃ l : List Int, IntSl w v l ∧ ∀ x ∈ l, (Lit.int .i64 x).wf = true := by
  obtain ⟨a, len, cap, rfl⟩ := okWide_slice ht hv
  obtain ⟨fuel, hf⟩ := h
  rcases open_ints ht he hce hf with ⟨hcs, _⟩ | ⟨x, l, c, zs, hcs, _, hl, hm, hz, _, hcell, hwz⟩
  · simp [Value.cells] at hcs
    obtain ⟨rfl, rfl, rfl⟩ := hcs
    exact ⟨[], ⟨none, 0, rfl, Nat.le_refl _, Nat.zero_le _, fun _ => rfl, fun h => (h rfl).elim⟩, fun x hx => by cases hx⟩
  · simp [Value.cells] at hcs
    obtain ⟨rfl, rfl, rfl⟩ := hcs
    simp only [if_true] at hz
    refine ⟨zs.take len, ⟨some x, cap, by rw [List.length_take, Nat.min_eq_left (by omega)], by rw [List.length_take]; omega, hm, (fun h => nomatch h), fun hne => ?_⟩, fun y hy => hwz y (List.mem_of_mem_take hy)⟩
    have h0 : 0 < zs.length ∧ 0 < len := by
      rcases Nat.eq_zero_or_pos len with e | e
      · subst e; simp at hne
      · exact ⟨by omega, e⟩
    obtain ⟨b, off, spot⟩ := x
    have hs : spot = none := by
      have h1 := hcell 0 h0.1
      unfold Addr.add at h1
      simp only [if_true] at h1
      cases spot with
      | none => rfl
      | some s =>
        unfold World.cell? at h1
        split at h1 <;> simp at h1
    subst hs
    refine ⟨b, off, rfl, ?_, fun i hi => ?_⟩
    · have h1 := hcell 0 h0.1
      exact World.block_lt_of_cell? w _ h1
    · rw [List.length_take] at hi
      have h1 := hcell i (by omega)
      rw [Addr.add_lit] at h1
      rw [h1]
      congr 2
      simp only [List.getD_eq_getElem?_getD, List.getElem?_take]
      rw [if_pos (by omega)]
end
end Go.Proofs.Ytnikajkklocncaa
