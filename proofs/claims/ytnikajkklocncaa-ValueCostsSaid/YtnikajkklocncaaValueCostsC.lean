/-
  ValueCosts, part 3 of 3: what the code computes, and plain laws; no condition beside those that each theorem tells.
-/
import Derived.Test.YtnikajkklocncaaValueCostsB
import Derived.OpenShut
import Derived.ProofKit
import Derived.Deep.Slices
namespace Go.Proofs.Ytnikajkklocncaa
theorem permP.perm {x y : List Int} {n : Nat} (h : permP x n) (h' : permP y n) : x.Perm y := by
  refine List.perm_iff_count.2 (fun a => ?_)
  by_cases ha : 0 ≤ a ∧ a < n
  · obtain ⟨k, rfl⟩ : ∃ k : Nat, a = k := ⟨a.toNat, by omega⟩
    rw [h.2 k (by omega), h'.2 k (by omega)]
  · rw [List.count_eq_zero.2 (fun q => ha (h.mem q)), List.count_eq_zero.2 (fun q => ha (h'.mem q))]
def cntI (x : List Int) (k i : Nat) : Int := ((x.take i).count (k : Int) : Nat)
theorem cntI_step {x : List Int} {k i : Nat} (h : i < x.length) : cntI x k (i + 1) = cntI x k i + if x.getD i 0 = (k : Int) then 1 else 0 := by
  have e : x.getD i 0 = x[i] := by simp [List.getD, h]
  unfold cntI
  rw [List.take_succ_eq_append_getElem h, List.count_append, e, List.count_singleton]
  by_cases q : x[i] = (k : Int)
  · rw [if_pos q, q]; simp
  · rw [if_neg q, show (x[i] == (k : Int)) = false by simpa using q]; simp
theorem cntI_bd (x : List Int) (k i : Nat) : 0 ≤ cntI x k i ∧ cntI x k i ≤ i := by
  unfold cntI
  have h := List.count_le_length (a := (k : Int)) (l := x.take i)
  rw [List.length_take] at h
  omega
theorem cntI_all {x : List Int} {k i : Nat} (h : i = x.length) : cntI x k i = (x.count (k : Int) : Nat) := by subst h; unfold cntI; rw [List.take_length]
theorem perm_step {x : List Int} {k : Nat} (h : ∀ j, j < k → x.count ((j : Nat) : Int) = 1) (g : cntI x k x.length = 1) : ∀ j, j < k + 1 → x.count ((j : Nat) : Int) = 1 := fun j hj => by
  rcases Nat.lt_succ_iff_lt_or_eq.1 hj with q | q
  · exact h j q
  · subst q; rw [cntI_all rfl] at g; omega
theorem perm_no {x : List Int} {k n : Nat} (hk : k < n) (g : ¬ cntI x k x.length = 1) : ¬ permP x n := fun h => g (by rw [cntI_all rfl, h.2 k hk]; rfl)
theorem vl_nil {i : Ins} (hF : InF i) (hk : i.kind ≠ 1) : i.vl = [] := by
  have := hF.vl
  rw [if_neg hk] at this
  exact List.eq_nil_of_length_eq_zero this
def rtF (i : Ins) (k : Nat) : Int := if i.kind = 1 then i.vl.getD k 0 else mxR i k
theorem rtF_bd {i : Ins} (h : InF i) (k : Nat) : 0 ≤ rtF i k ∧ rtF i k ≤ 2147483647 := by
  unfold rtF
  split
  · exact h.vlr k
  · exact mxF_bd (by decide) (fun q _ => (h.cell k q).2)
theorem rtF_sum {i : Ins} (h : InF i) : sumF (rtF i) i.n.toNat = i.vl.sum + sumF (mxR i) i.cost.length := by
  have hv := h.vl
  have hc := h.cost
  by_cases hk : i.kind = 1
  · rw [if_pos hk] at hv hc
    rw [hc, ← sumF_list, hv, sumF_congr (g := fun q => i.vl.getD q 0) (fun q _ => by unfold rtF; rw [if_pos hk])]
    simp [sumF]
  · rw [if_neg hk] at hc
    rw [hc, vl_nil h hk, sumF_congr (g := mxR i) (fun q _ => by unfold rtF; rw [if_neg hk])]
    simp
end Go.Proofs.Ytnikajkklocncaa
namespace Go.Proofs.Ytnikajkklocncaa
open Go.RowKit
theorem costI_chk {i : Ins} {x : List Int} (h : (costI i x).2 = 0) : chk i = 0 := by
  refine Decidable.byContradiction fun g => ?_
  unfold costI at h
  rw [if_pos g] at h
  exact g h
theorem tot_eq {i : Ins} (h : chk i = 0) : totI i = sumF (rtF i) i.n.toNat := by
  unfold totI; rw [if_neg (not_not_intro h), rtF_sum (chk_inF h)]
theorem tot_bd (i : Ins) : 0 ≤ totI i ∧ totI i ≤ 64 * 2147483647 := by
  by_cases h : chk i = 0
  · rw [tot_eq h]
    have hF := chk_inF h
    have h1 := sumF_bd (f := rtF i) (B := 2147483647) (by decide) (k := i.n.toNat) (fun q _ => rtF_bd hF q)
    have := hF.n64
    omega
  · unfold totI; rw [if_pos h]; decide
theorem costI_kn {i : Ins} {x : List Int} (h : chk i = 0) (hk : i.kind = 1) : costI i x = knpI i x := by unfold costI; rw [if_neg (not_not_intro h), if_pos hk]
theorem costI_or {i : Ins} {x : List Int} (h : chk i = 0) (hk : ¬ i.kind = 1) : costI i x = if ¬ ordP i x then (0, 1) else (sumF (stp i x) i.n.toNat, 0) := by unfold costI; rw [if_neg (not_not_intro h), if_neg hk]
theorem of_tot {i : Ins} (h : chk i = 0) (hk : i.kind = 1) (c : Int) : ofI i c = totI i - c := by
  have hc := (chk_inF h).cost
  rw [if_pos hk] at hc
  unfold ofI totI; rw [if_pos hk, if_neg (not_not_intro h), hc]; simp [sumF]
theorem of_same {i : Ins} (hk : ¬ i.kind = 1) (c : Int) : ofI i c = c := if_neg hk
theorem pln_len {i : Ins} (h : chk i = 0) : (plnI i).length = i.n.toNat := by
  unfold plnI; rw [if_neg (not_not_intro h)]; split
  · exact List.length_replicate
  · simp
theorem pln_no {i : Ins} (h : ¬ chk i = 0) : plnI i = [] := if_pos h
theorem pln_kn {i : Ins} (h : chk i = 0) (hk : i.kind = 1) : List.replicate i.n.toNat 0 = plnI i := by unfold plnI; rw [if_neg (not_not_intro h), if_pos hk]
theorem pln_or {i : Ins} (h : chk i = 0) (hk : ¬ i.kind = 1) : (List.range i.n.toNat).map Int.ofNat = plnI i := by unfold plnI; rw [if_neg (not_not_intro h), if_neg hk]
theorem fil_set (n k : Nat) (h : k < n) : ((List.range k).map Int.ofNat ++ List.replicate (n - k) 0).set k (k : Int) = (List.range (k + 1)).map Int.ofNat ++ List.replicate (n - (k + 1)) 0 := by
  rw [List.set_append_right _ _ (by simp), List.range_succ, List.map_append, List.append_assoc]
  simp only [List.length_map, List.length_range, Nat.sub_self]
  rw [show n - k = (n - (k + 1)) + 1 by omega, List.replicate_succ, List.set_cons_zero]
  rfl
theorem fil_len (n k : Nat) (h : k ≤ n) : ((List.range k).map Int.ofNat ++ List.replicate (n - k) (0 : Int)).length = n := by
  rw [List.length_append, List.length_map, List.length_range, List.length_replicate]; omega
theorem fil_all (n k : Nat) (h : k = n) : (List.range k).map Int.ofNat ++ List.replicate (n - k) (0 : Int) = (List.range n).map Int.ofNat := by subst h; simp
theorem fil_zero (n : Nat) : List.replicate n (0 : Int) = (List.range 0).map Int.ofNat ++ List.replicate (n - 0) 0 := rfl
set_option maxRecDepth 100000 in
set_option maxHeartbeats 400000 in
theorem of08 (i : Ins) (ax3 : Option Addr) (cx3 : Nat) (ax4 : Option Addr) (cx4 : Nat) (ax5 : Option Addr) (cx5 : Nat) (c : Int) (hF : InF i) (hc : 0 ≤ c ∧ c ≤ 64 * 2147483647) (w : World) (hx3 : IntSl w (.slice ax3 i.wt.length cx3) i.wt) (hx4 : IntSl w (.slice ax4 i.vl.length cx4) i.vl) (hx5 : RowsV w (.slice ax5 i.cost.length cx5) i.cost) :
  Calls Try.prog 23 #[.agg #[.int .i64 i.kind, .int .i64 i.n, .int .i64 i.cap, .slice ax3 i.wt.length cx3, .slice ax4 i.vl.length cx4, .slice ax5 i.cost.length cx5], .int .i64 c] w fun e w' => e = .returned (.int .i64 (ofI i c)) ∧ Below w.heap.size w w' := by
 have hbs := Below.refl (B := w.heap.size) w
 have f2 := hF.n1
 have f3 := hF.n64
 have f5 := hF.wt
 have f6 := hF.vl
 have f7 := hF.cost
 have hlx0 := inF_len hF
 have hvs := vl_sum hF
 have hM := Mem.start w
 refine Calls.of_ends (vs := [.agg #[.int .i64 i.kind, .int .i64 i.n, .int .i64 i.cap, .slice ax3 i.wt.length cx3, .slice ax4 i.vl.length cx4, .slice ax5 i.cost.length cx5], .int .i64 c]) Try.func23 rfl Try.ntmps23 rfl ?_
 intro a hA
 replace hA : St 14 [(0, _), (1, _)] a := hA
 refine Ends.seq (Ends.region ?_)
 refine S.box hA hM rfl rfl ?_; clear hA hM a; intro b1 w1 hb2 hM a hA
 replace hM : Mem _ _ [pt b1 #[.int .i64 i.kind, .int .i64 i.n, .int .i64 i.cap, .slice ax3 i.wt.length cx3, .slice ax4 i.vl.length cx4, .slice ax5 i.cost.length cx5] 25] _ := hM
 refine S.val hA (R.assign rfl) rfl ?_; clear hA a; intro a hA
 refine S.done ?_
 refine Ends.seq (Ends.seq (Ends.region ?_))
 refine S.val hA (R.fieldAddr (q := 0) fi25_0 rfl rfl rfl) rfl ?_; clear hA a; intro a hA
 refine S.val hA (R.load sz3 rfl (hM.cell (k := 0) rfl rfl)) rfl ?_; clear hA a; intro a hA
 refine S.val hA (R.eql rfl rfl) rfl ?_; clear hA a; intro a hA
 refine S.done ?_
 replace hA : St 14 [(1, _), (2, _), (7, _)] a := hA.sub ((.cons rfl (.cons rfl (.cons rfl .nil))))
 refine Ends.ite hA rfl (fun hc3 => ?_) (fun hc3 => ?_)
 ·
  refine Ends.seq (Ends.region ?_)
  refine S.val hA (R.fieldAddr (q := 4) fi25_4 rfl rfl rfl) rfl ?_; clear hA a; intro a hA
  refine S.val hA (R.load sz22 rfl (hM.cell (k := 0) rfl rfl)) rfl ?_; clear hA a; intro a hA
  refine S.call hA (R.callF Try.func43 rfl rfl rfl) rfl (total08 ax4 i.vl cx4 (by omega) (fun q => hF.vlr q) _ (hx4.mem hM)) ?_; clear hA a
  rintro e w2 ⟨rfl, hb⟩
  replace hM := hM.callB hb; clear hb
  refine ⟨.int .i64 i.vl.sum, rfl, fun a hA => ?_⟩
  refine S.val hA (R.move rfl) rfl ?_; clear hA a; intro a hA
  refine S.val hA (R.subI rfl rfl (r := i.vl.sum - c) rfl (by omega)) rfl ?_; clear hA a; intro a hA
  refine S.val hA (R.assign rfl) rfl ?_; clear hA a; intro a hA
  refine S.done ?_
  replace hA : St 14 [(1, _), (4, _)] a := hA.sub ((.cons rfl (.cons rfl .nil)))
  refine Ends.ret1 Try.func23 Try.results23 hA rfl ?_
  exact ⟨by unfold ofI; rw [if_pos hc3], Mem.trans0 hbs hM.nilL⟩
 ·
  refine Ends.skip (Ends.seq (Ends.region ?_))
  refine S.val hA (R.move rfl) rfl ?_; clear hA a; intro a hA
  refine S.val hA (R.assign rfl) rfl ?_; clear hA a; intro a hA
  refine S.done ?_
  replace hA : St 14 [(4, _)] a := hA.sub ((.cons rfl .nil))
  refine Ends.ret1 Try.func23 Try.results23 hA rfl ?_
  exact ⟨by unfold ofI; rw [if_neg hc3], Mem.trans0 hbs hM.nilL⟩
set_option maxRecDepth 100000 in
set_option maxHeartbeats 400000 in
theorem val08 (i : Ins) (ax3 : Option Addr) (cx3 : Nat) (ax4 : Option Addr) (cx4 : Nat) (ax5 : Option Addr) (cx5 : Nat) (ay : Option Addr) (x : List Int) (cy : Nat) (hsm : i.wt.length ≤ 1000000 ∧ i.vl.length ≤ 1000000) (w : World) (hx3 : IntSl w (.slice ax3 i.wt.length cx3) i.wt) (hx4 : IntSl w (.slice ax4 i.vl.length cx4) i.vl) (hx5 : RowsV w (.slice ax5 i.cost.length cx5) i.cost) (hy : IntSl w (.slice ay x.length cy) x) :
  Calls Try.prog 19 #[.agg #[.int .i64 i.kind, .int .i64 i.n, .int .i64 i.cap, .slice ax3 i.wt.length cx3, .slice ax4 i.vl.length cx4, .slice ax5 i.cost.length cx5], .slice ay x.length cy] w fun e w' => e = .returned (.tuple #[.int .i64 (valI i x).1, .int .i64 (valI i x).2]) ∧ Below w.heap.size w w' := by
 have hbs := Below.refl (B := w.heap.size) w
 have hM := Mem.start w
 refine Calls.of_ends (vs := [.agg #[.int .i64 i.kind, .int .i64 i.n, .int .i64 i.cap, .slice ax3 i.wt.length cx3, .slice ax4 i.vl.length cx4, .slice ax5 i.cost.length cx5], .slice ay x.length cy]) Try.func19 rfl Try.ntmps19 rfl ?_
 intro a hA
 replace hA : St 20 [(0, _), (1, _)] a := hA
 refine Ends.seq (Ends.region ?_)
 refine S.box hA hM rfl rfl ?_; clear hA hM a; intro b1 w1 hb2 hM a hA
 replace hM : Mem _ _ [pt b1 #[.int .i64 i.kind, .int .i64 i.n, .int .i64 i.cap, .slice ax3 i.wt.length cx3, .slice ax4 i.vl.length cx4, .slice ax5 i.cost.length cx5] 25] _ := hM
 refine S.val hA (R.assign rfl) rfl ?_; clear hA a; intro a hA
 refine S.val hA (R.assign rfl) rfl ?_; clear hA a; intro a hA
 refine S.done ?_
 refine Ends.seq (Ends.region ?_)
 refine S.val hA (R.loadA sz25 rfl (hM.range (k := 0) rfl) rfl) rfl ?_; clear hA a; intro a hA
 refine S.val hA (R.move rfl) rfl ?_; clear hA a; intro a hA
 refine S.call hA (R.callF Try.func17 rfl rfl rfl) rfl (cost08 i ax3 cx3 ax4 cx4 ax5 cx5 ay x cy hsm _ (hx3.mem hM) (hx4.mem hM) (hx5.mem hM) (hy.mem hM)) ?_; clear hA a
 rintro e w2 ⟨rfl, hb⟩
 replace hM := hM.callB hb; clear hb
 refine ⟨.tuple #[.int .i64 ((costI i x).1), .int .i64 ((costI i x).2)], rfl, fun a hA => ?_⟩
 refine S.val hA (R.move rfl) rfl ?_; clear hA a; intro a hA
 refine S.val hA (R.extract (v := .int .i64 ((costI i x).1)) rfl rfl) rfl ?_; clear hA a; intro a hA
 refine S.val hA (R.extract (v := .int .i64 ((costI i x).2)) rfl rfl) rfl ?_; clear hA a; intro a hA
 refine S.val hA (R.assign rfl) rfl ?_; clear hA a; intro a hA
 refine S.val hA (R.assign rfl) rfl ?_; clear hA a; intro a hA
 refine S.done ?_
 replace hA : St 20 [(2, _), (6, _), (7, _)] a := hA.sub ((.cons rfl (.cons rfl (.cons rfl .nil))))
 refine Ends.seq (Ends.seq (Ends.region ?_))
 refine S.val hA (R.move rfl) rfl ?_; clear hA a; intro a hA
 refine S.val hA (R.neq rfl rfl) rfl ?_; clear hA a; intro a hA
 refine S.done ?_
 refine Ends.ite hA rfl (fun hc3 => ?_) (fun hc3 => ?_)
 ·
  refine Ends.seq (Ends.region ?_)
  refine S.val hA (R.move rfl) rfl ?_; clear hA a; intro a hA
  refine S.val hA (R.assign rfl) rfl ?_; clear hA a; intro a hA
  refine S.val hA (R.assign rfl) rfl ?_; clear hA a; intro a hA
  refine S.done ?_
  replace hA : St 20 [(2, _), (4, _), (5, _), (6, _)] a := hA.sub ((.cons rfl (.cons rfl (.cons rfl (.cons rfl .nil)))))
  refine Ends.ret2 Try.func19 Try.results19 hA rfl rfl ?_
  exact ⟨by unfold valI; rw [if_pos hc3], Mem.trans0 hbs hM.nilL⟩
 ·
  have hz0 : (costI i x).2 = 0 := Decidable.not_not.1 hc3
  have hF := chk_inF (costI_chk hz0)
  have hcb := cost_bd i x
  refine Ends.skip (Ends.seq (Ends.region ?_))
  refine S.val hA (R.loadA sz25 rfl (hM.range (k := 0) rfl) rfl) rfl ?_; clear hA a; intro a hA
  refine S.val hA (R.move rfl) rfl ?_; clear hA a; intro a hA
  refine S.call hA (R.callF Try.func23 rfl rfl rfl) rfl (of08 i ax3 cx3 ax4 cx4 ax5 cx5 ((costI i x).1) hF (by omega) _ (hx3.mem hM) (hx4.mem hM) (hx5.mem hM)) ?_; clear hA a
  rintro e w3 ⟨rfl, hb⟩
  replace hM := hM.callB hb; clear hb
  refine ⟨.int .i64 (ofI i ((costI i x).1)), rfl, fun a hA => ?_⟩
  refine S.val hA (R.assign rfl) rfl ?_; clear hA a; intro a hA
  refine S.val hA (R.assign rfl) rfl ?_; clear hA a; intro a hA
  refine S.done ?_
  replace hA : St 20 [(4, _), (5, _)] a := hA.sub ((.cons rfl (.cons rfl .nil)))
  refine Ends.ret2 Try.func19 Try.results19 hA rfl rfl ?_
  exact ⟨by unfold valI; rw [if_neg (not_not_intro hz0)], Mem.trans0 hbs hM.nilL⟩
set_option maxRecDepth 100000 in
set_option maxHeartbeats 400000 in
theorem plain08 (i : Ins) (ax3 : Option Addr) (cx3 : Nat) (ax4 : Option Addr) (cx4 : Nat) (ax5 : Option Addr) (cx5 : Nat) (hsm : i.wt.length ≤ 1000000 ∧ i.vl.length ≤ 1000000) (w : World) (hx3 : IntSl w (.slice ax3 i.wt.length cx3) i.wt) (hx4 : IntSl w (.slice ax4 i.vl.length cx4) i.vl) (hx5 : RowsV w (.slice ax5 i.cost.length cx5) i.cost) :
  Calls Try.prog 14 #[.agg #[.int .i64 i.kind, .int .i64 i.n, .int .i64 i.cap, .slice ax3 i.wt.length cx3, .slice ax4 i.vl.length cx4, .slice ax5 i.cost.length cx5]] w fun e w' => ∃ a c, e = .returned (.slice a ((plnI i)).length c) ∧ IntSl w' (.slice a ((plnI i)).length c) ((plnI i)) ∧ Below w.heap.size w w' := by
 have hbs := Below.refl (B := w.heap.size) w
 have hM := Mem.start w
 refine Calls.of_ends (vs := [.agg #[.int .i64 i.kind, .int .i64 i.n, .int .i64 i.cap, .slice ax3 i.wt.length cx3, .slice ax4 i.vl.length cx4, .slice ax5 i.cost.length cx5]]) Try.func14 rfl Try.ntmps14 rfl ?_
 intro a hA
 replace hA : St 25 [(0, _)] a := hA
 refine Ends.seq (Ends.region ?_)
 refine S.box hA hM rfl rfl ?_; clear hA hM a; intro b1 w1 hb2 hM a hA
 replace hM : Mem _ _ [pt b1 #[.int .i64 i.kind, .int .i64 i.n, .int .i64 i.cap, .slice ax3 i.wt.length cx3, .slice ax4 i.vl.length cx4, .slice ax5 i.cost.length cx5] 25] _ := hM
 refine S.val hA (R.assign rfl) rfl ?_; clear hA a; intro a hA
 refine S.done ?_
 refine Ends.seq (Ends.seq (Ends.region ?_))
 refine S.val hA (R.loadA sz25 rfl (hM.range (k := 0) rfl) rfl) rfl ?_; clear hA a; intro a hA
 refine S.call hA (R.callF Try.func35 rfl rfl rfl) rfl (check05 i ax3 cx3 ax4 cx4 ax5 cx5 hsm _ (hx3.mem hM) (hx4.mem hM) (hx5.mem hM)) ?_; clear hA a
 rintro e w2 ⟨rfl, hb⟩
 replace hM := hM.callB hb; clear hb
 refine ⟨.int .i64 (chk i), rfl, fun a hA => ?_⟩
 refine S.val hA (R.neq rfl rfl) rfl ?_; clear hA a; intro a hA
 refine S.done ?_
 replace hA : St 25 [(1, _), (7, _)] a := hA.sub ((.cons rfl (.cons rfl .nil)))
 refine Ends.ite hA rfl (fun hc3 => ?_) (fun hc3 => ?_)
 ·
  refine Ends.seq (Ends.region ?_)
  refine S.val hA (R.assign rfl) rfl ?_; clear hA a; intro a hA
  refine S.done ?_
  refine Ends.ret1 Try.func14 Try.results14 hA rfl ?_
  have he := pln_no hc3
  exact ⟨none, 0, by rw [he]; rfl, by rw [he]; exact IntSl.nil _, Mem.trans0 hbs hM.nilL⟩
 ·
  have hz : chk i = 0 := Decidable.not_not.1 hc3
  have hF := chk_inF hz
  have f2 := hF.n1
  have f3 := hF.n64
  have f5 := hF.wt
  have f6 := hF.vl
  have f7 := hF.cost
  have hlx0 := inF_len hF
  refine Ends.skip (Ends.seq (Ends.region ?_))
  refine S.val hA (R.fieldAddr (q := 1) fi25_1 rfl rfl rfl) rfl ?_; clear hA a; intro a hA
  refine S.val hA (R.load sz3 rfl (hM.cell (k := 0) rfl rfl)) rfl ?_; clear hA a; intro a hA
  refine S.make hA hM Try.underlying22 info3 rfl rfl rfl (by first | omega | (rw [fil_len _ _ (by omega)]; omega)) (by show (8 : Int) * _ ≤ _; omega) (by first | omega | (rw [fil_len _ _ (by omega)]; omega)) rfl ?_; clear hA hM a; intro b4 w3 hb5 hM a hA
  replace hM : Mem _ _ [pt b4 (madeCells #[.int .i64 0] (i.n.toNat * 1)) 3, pt b1 #[.int .i64 i.kind, .int .i64 i.n, .int .i64 i.cap, .slice ax3 i.wt.length cx3, .slice ax4 i.vl.length cx4, .slice ax5 i.cost.length cx5] 25] _ := hM
  rw [Nat.mul_one, made_ints] at hM
  replace hM : Mem _ _ [pt b4 ((ints (List.replicate i.n.toNat 0))) 3, pt b1 #[.int .i64 i.kind, .int .i64 i.n, .int .i64 i.cap, .slice ax3 i.wt.length cx3, .slice ax4 i.vl.length cx4, .slice ax5 i.cost.length cx5] 25] _ := hM
  refine S.val hA (R.assign rfl) rfl ?_; clear hA a; intro a hA
  refine S.done ?_
  replace hA : St 25 [(1, _), (3, _)] a := hA.sub ((.cons rfl (.cons rfl .nil)))
  refine Ends.seq (Ends.seq (Ends.region ?_))
  refine S.val hA (R.fieldAddr (q := 0) fi25_0 rfl rfl rfl) rfl ?_; clear hA a; intro a hA
  refine S.val hA (R.load sz3 rfl (hM.cell (k := 1) rfl rfl)) rfl ?_; clear hA a; intro a hA
  refine S.val hA (R.neq rfl rfl) rfl ?_; clear hA a; intro a hA
  refine S.done ?_
  refine Ends.ite hA rfl (fun hc6 => ?_) (fun hc6 => ?_)
  ·
   have hk := hc6
   refine Ends.seq (Ends.region ?_)
   refine S.val hA (R.move rfl) rfl ?_; clear hA a; intro a hA
   refine S.val hA (R.lenS Try.underlying22 rfl rfl) rfl ?_; clear hA a; intro a hA
   refine S.val hA (R.move rfl) rfl ?_; clear hA a; intro a hA
   refine S.done ?_
   replace hA : St 25 [(3, _), (15, _), (16, _)] a := hA.sub ((.cons rfl (.cons rfl (.cons rfl .nil))))
   refine Ends.block ?_
   replace hM := Mem.eqM (L2 := [pt b4 ((ints ((List.range 0).map Int.ofNat ++ List.replicate (i.n.toNat - 0) 0))) 3, pt b1 #[.int .i64 i.kind, .int .i64 i.n, .int .i64 i.cap, .slice ax3 i.wt.length cx3, .slice ax4 i.vl.length cx4, .slice ax5 i.cost.length cx5] 25]) hM (by rw [← fil_zero])
   refine Ends.loop (σ := Nat) (fun k (a : Act) (wv : World) => St 25 [(3, .slice (some ⟨b4, 0, none⟩) i.n.toNat i.n.toNat), (15, .int .i64 ((i.n.toNat : Int))), (16, .int .i64 ((k : Int)))] a ∧ Mem w nof [pt b4 ((ints ((List.range k).map Int.ofNat ++ List.replicate (i.n.toNat - k) 0))) 3, pt b1 #[.int .i64 i.kind, .int .i64 i.n, .int .i64 i.cap, .slice ax3 i.wt.length cx3, .slice ax4 i.vl.length cx4, .slice ax5 i.cost.length cx5] 25] wv ∧ (k ≤ i.n.toNat)) (fun k => i.n.toNat - k) 0 ⟨hA.sub ((.cons rfl (.cons rfl (.cons rfl .nil)))), hM, (Nat.zero_le _)⟩ ?_
   clear hA hM a
   rintro k a w4 ⟨hA, hM, hk2⟩ hNext
   refine Ends.seq (Ends.region ?_)
   refine S.val hA (R.lss rfl rfl) rfl ?_; clear hA a; intro a hA
   refine S.done ?_
   refine Ends.seq ?_
   refine Ends.ite hA rfl (fun hc7 => ?_) (fun hc7 => ?_)
   ·
    refine Ends.skip (Ends.seq (Ends.block (Ends.seq (Ends.region ?_))))
    refine S.val hA (R.move rfl) rfl ?_; clear hA a; intro a hA
    refine S.val hA (R.assign rfl) rfl ?_; clear hA a; intro a hA
    refine S.done ?_
    refine Ends.region ?_
    refine S.val hA (R.move rfl) rfl ?_; clear hA a; intro a hA
    refine S.val hA (R.move rfl) rfl ?_; clear hA a; intro a hA
    refine S.val hA (R.move rfl) rfl ?_; clear hA a; intro a hA
    refine S.val hA (R.indexAddr (q := k) sl22 rfl rfl (by first | omega | (rw [fil_len _ _ (by omega)]; omega)) (by first | omega | (rw [fil_len _ _ (by omega)]; omega))) rfl ?_; clear hA a; intro a hA
    refine S.store (k := 0) hA hM sz3 rfl rfl rfl rfl (ints_getD (((List.range k).map Int.ofNat ++ List.replicate (i.n.toNat - k) 0)) _ (by first | omega | (rw [fil_len _ _ (by omega)]; omega))) ?_; clear hM
    intro w5 hM
    rw [ints_set] at hM
    replace hM : Mem _ _ [pt b4 ((ints ((((List.range k).map Int.ofNat ++ List.replicate (i.n.toNat - k) 0)).set k ((k : Int))))) 3, pt b1 #[.int .i64 i.kind, .int .i64 i.n, .int .i64 i.cap, .slice ax3 i.wt.length cx3, .slice ax4 i.vl.length cx4, .slice ax5 i.cost.length cx5] 25] _ := hM
    refine S.done ?_
    replace hA : St 25 [(3, _), (15, _), (16, _)] a := hA.sub ((.cons rfl (.cons rfl (.cons rfl .nil))))
    refine Ends.inBlock (Ends.region ?_)
    refine S.val hA (R.addI rfl rfl (r := ((k : Int)) + 1) rfl (by first | omega | (rw [fil_len _ _ (by omega)]; omega))) rfl ?_; clear hA a; intro a hA
    refine S.val hA (R.move rfl) rfl ?_; clear hA a; intro a hA
    refine S.done ?_
    rw [fil_set _ k (by omega)] at hM
    replace hM : Mem _ _ [pt b4 ((ints ((List.range (k + 1)).map Int.ofNat ++ List.replicate (i.n.toNat - (k + 1)) 0))) 3, pt b1 #[.int .i64 i.kind, .int .i64 i.n, .int .i64 i.cap, .slice ax3 i.wt.length cx3, .slice ax4 i.vl.length cx4, .slice ax5 i.cost.length cx5] 25] _ := hM
    exact hNext ((k + 1)) _ _ ((by show i.n.toNat - (k + 1) < i.n.toNat - k; omega)) ⟨hA.sub ((.cons rfl (.cons rfl (.cons rfl .nil)))), hM, (by omega)⟩
   ·
    have hke : k = i.n.toNat := by omega
    refine Ends.exit rfl ?_
    refine Ends.seq (Ends.region ?_)
    refine S.val hA (R.move rfl) rfl ?_; clear hA a; intro a hA
    refine S.val hA (R.assign rfl) rfl ?_; clear hA a; intro a hA
    refine S.done ?_
    replace hA : St 25 [(2, _)] a := hA.sub ((.cons rfl .nil))
    refine Ends.ret1 Try.func14 Try.results14 hA rfl ?_
    have he : ((List.range k).map Int.ofNat ++ List.replicate (i.n.toNat - k) 0) = plnI i := (fil_all _ _ hke).trans (pln_or hz hk)
    rw [he] at hM
    have hpl := pln_len hz
    have hr := hM.ptRs (k := 0) (X := plnI i) rfl (by omega)
    exact ⟨_, _, by rw [hpl], by rw [hpl] at hr ⊢; exact hr, Mem.trans0 hbs hM.nilL⟩
  ·
   have hk := hc6
   refine Ends.skip (Ends.seq (Ends.region ?_))
   refine S.val hA (R.move rfl) rfl ?_; clear hA a; intro a hA
   refine S.val hA (R.assign rfl) rfl ?_; clear hA a; intro a hA
   refine S.done ?_
   replace hA : St 25 [(2, _)] a := hA.sub ((.cons rfl .nil))
   refine Ends.ret1 Try.func14 Try.results14 hA rfl ?_
   have he : (List.replicate i.n.toNat 0) = plnI i := pln_kn hz (Decidable.not_not.1 hk)
   rw [he] at hM
   have hpl := pln_len hz
   have hr := hM.ptRs (k := 0) (X := plnI i) rfl (by omega)
   exact ⟨_, _, by rw [hpl], by rw [hpl] at hr ⊢; exact hr, Mem.trans0 hbs hM.nilL⟩
set_option maxRecDepth 100000 in
set_option maxHeartbeats 400000 in
theorem tot08 (i : Ins) (ax3 : Option Addr) (cx3 : Nat) (ax4 : Option Addr) (cx4 : Nat) (ax5 : Option Addr) (cx5 : Nat) (hsm : i.wt.length ≤ 1000000 ∧ i.vl.length ≤ 1000000) (w : World) (hx3 : IntSl w (.slice ax3 i.wt.length cx3) i.wt) (hx4 : IntSl w (.slice ax4 i.vl.length cx4) i.vl) (hx5 : RowsV w (.slice ax5 i.cost.length cx5) i.cost) :
  Calls Try.prog 18 #[.agg #[.int .i64 i.kind, .int .i64 i.n, .int .i64 i.cap, .slice ax3 i.wt.length cx3, .slice ax4 i.vl.length cx4, .slice ax5 i.cost.length cx5]] w fun e w' => e = .returned (.int .i64 (totI i)) ∧ Below w.heap.size w w' := by
 have hbs := Below.refl (B := w.heap.size) w
 have hM := Mem.start w
 refine Calls.of_ends (vs := [.agg #[.int .i64 i.kind, .int .i64 i.n, .int .i64 i.cap, .slice ax3 i.wt.length cx3, .slice ax4 i.vl.length cx4, .slice ax5 i.cost.length cx5]]) Try.func18 rfl Try.ntmps18 rfl ?_
 intro a hA
 replace hA : St 25 [(0, _)] a := hA
 refine Ends.seq (Ends.region ?_)
 refine S.box hA hM rfl rfl ?_; clear hA hM a; intro b1 w1 hb2 hM a hA
 replace hM : Mem _ _ [pt b1 #[.int .i64 i.kind, .int .i64 i.n, .int .i64 i.cap, .slice ax3 i.wt.length cx3, .slice ax4 i.vl.length cx4, .slice ax5 i.cost.length cx5] 25] _ := hM
 refine S.val hA (R.assign rfl) rfl ?_; clear hA a; intro a hA
 refine S.done ?_
 refine Ends.seq (Ends.seq (Ends.region ?_))
 refine S.val hA (R.loadA sz25 rfl (hM.range (k := 0) rfl) rfl) rfl ?_; clear hA a; intro a hA
 refine S.call hA (R.callF Try.func35 rfl rfl rfl) rfl (check05 i ax3 cx3 ax4 cx4 ax5 cx5 hsm _ (hx3.mem hM) (hx4.mem hM) (hx5.mem hM)) ?_; clear hA a
 rintro e w2 ⟨rfl, hb⟩
 replace hM := hM.callB hb; clear hb
 refine ⟨.int .i64 (chk i), rfl, fun a hA => ?_⟩
 refine S.val hA (R.neq rfl rfl) rfl ?_; clear hA a; intro a hA
 refine S.done ?_
 replace hA : St 25 [(1, _), (8, _)] a := hA.sub ((.cons rfl (.cons rfl .nil)))
 refine Ends.ite hA rfl (fun hc3 => ?_) (fun hc3 => ?_)
 ·
  refine Ends.seq (Ends.region ?_)
  refine S.val hA (R.assign rfl) rfl ?_; clear hA a; intro a hA
  refine S.done ?_
  refine Ends.ret1 Try.func18 Try.results18 hA rfl ?_
  exact ⟨by unfold totI; rw [if_pos hc3], Mem.trans0 hbs hM.nilL⟩
 ·
  have hz : chk i = 0 := Decidable.not_not.1 hc3
  have hF := chk_inF hz
  have f2 := hF.n1
  have f3 := hF.n64
  have f5 := hF.wt
  have f6 := hF.vl
  have f7 := hF.cost
  have hlx0 := inF_len hF
  have hvs := vl_sum hF
  have hrow := hF.row
  refine Ends.skip (Ends.seq (Ends.region ?_))
  refine S.val hA (R.fieldAddr (q := 4) fi25_4 rfl rfl rfl) rfl ?_; clear hA a; intro a hA
  refine S.val hA (R.load sz22 rfl (hM.cell (k := 0) rfl rfl)) rfl ?_; clear hA a; intro a hA
  refine S.call hA (R.callF Try.func43 rfl rfl rfl) rfl (total08 ax4 i.vl cx4 (by omega) (fun q => hF.vlr q) _ (hx4.mem hM)) ?_; clear hA a
  rintro e w3 ⟨rfl, hb⟩
  replace hM := hM.callB hb; clear hb
  refine ⟨.int .i64 i.vl.sum, rfl, fun a hA => ?_⟩
  refine S.val hA (R.assign rfl) rfl ?_; clear hA a; intro a hA
  refine S.done ?_
  replace hA : St 25 [(1, _), (3, _)] a := hA.sub ((.cons rfl (.cons rfl .nil)))
  refine Ends.seq (Ends.seq (Ends.region ?_))
  refine S.val hA (R.fieldAddr (q := 5) fi25_5 rfl rfl rfl) rfl ?_; clear hA a; intro a hA
  refine S.val hA (R.load sz23 rfl (hM.cell (k := 0) rfl rfl)) rfl ?_; clear hA a; intro a hA
  refine S.val hA (R.lenS Try.underlying23 rfl rfl) rfl ?_; clear hA a; intro a hA
  refine S.val hA (R.move rfl) rfl ?_; clear hA a; intro a hA
  refine S.done ?_
  refine Ends.block ?_
  rw [show i.vl.sum = i.vl.sum + sumF (mxR i) 0 by simp [sumF]] at hA
  refine Ends.loop (σ := Nat) (fun r (a : Act) (wv : World) => St 25 [(3, .int .i64 (i.vl.sum + sumF (mxR i) r)), (13, .slice ax5 i.cost.length cx5), (14, .int .i64 ((i.cost.length : Int))), (15, .int .i64 ((r : Int)))] a ∧ Mem w nof [pt b1 #[.int .i64 i.kind, .int .i64 i.n, .int .i64 i.cap, .slice ax3 i.wt.length cx3, .slice ax4 i.vl.length cx4, .slice ax5 i.cost.length cx5] 25] wv ∧ (r ≤ i.cost.length)) (fun r => i.cost.length - r) 0 ⟨hA.sub ((.cons rfl (.cons rfl (.cons rfl (.cons rfl .nil))))), hM, (Nat.zero_le _)⟩ ?_
  clear hA hM a
  rintro r a w4 ⟨hA, hM, hr⟩ hNext
  refine Ends.seq (Ends.region ?_)
  refine S.val hA (R.lss rfl rfl) rfl ?_; clear hA a; intro a hA
  refine S.done ?_
  refine Ends.seq ?_
  refine Ends.ite hA rfl (fun hc4 => ?_) (fun hc4 => ?_)
  ·
   have hrk := hrow r (by omega)
   have hmx := mxS_bd hF r (by omega)
   have hmr := mxR_bd hF r
   refine Ends.skip (Ends.seq (Ends.block (Ends.seq (Ends.region ?_))))
   refine S.val hA (R.idxR hx5 (j := r) sl23 rfl rfl (by omega) (rfl)) rfl ?_; clear hA a; intro a hA
   obtain ⟨ra5, rc6, hrow7, hld8⟩ := hx5.atP (i := r) (by omega)
   refine S.val hA (hld8 _ _ _ _ _ _ hM sz22 rfl) rfl ?_; clear hA a; intro a hA
   refine S.val hA (R.assign rfl) rfl ?_; clear hA a; intro a hA
   refine S.done ?_
   refine Ends.region ?_
   refine S.val hA (R.move rfl) rfl ?_; clear hA a; intro a hA
   refine S.val hA (R.move rfl) rfl ?_; clear hA a; intro a hA
   refine S.call hA (R.callF Try.func44 rfl rfl rfl) rfl (max08 ra5 ((i.cost.getD r [])) rc6 (by omega) (fun q => hF.cell r q) _ (hrow7.mem hM)) ?_; clear hA a
   rintro e w5 ⟨rfl, hb⟩
   replace hM := hM.callB hb; clear hb
   refine ⟨.int .i64 (mxR i r), rfl, fun a hA => ?_⟩
   refine S.val hA (R.addI rfl rfl (r := (i.vl.sum + sumF (mxR i) r) + (mxR i r)) rfl (by omega)) rfl ?_; clear hA a; intro a hA
   refine S.val hA (R.assign rfl) rfl ?_; clear hA a; intro a hA
   refine S.done ?_
   replace hA : St 25 [(3, _), (13, _), (14, _), (15, _)] a := hA.sub ((.cons rfl (.cons rfl (.cons rfl (.cons rfl .nil)))))
   refine Ends.inBlock (Ends.region ?_)
   refine S.val hA (R.addI rfl rfl (r := ((r : Int)) + 1) rfl (by omega)) rfl ?_; clear hA a; intro a hA
   refine S.val hA (R.move rfl) rfl ?_; clear hA a; intro a hA
   refine S.done ?_
   have hs9 : i.vl.sum + sumF (mxR i) (r + 1) = (i.vl.sum + sumF (mxR i) r) + (mxR i r) := by simp only [sumF]; omega
   rw [← hs9] at hA
   exact hNext ((r + 1)) _ _ ((by show i.cost.length - (r + 1) < i.cost.length - r; omega)) ⟨hA.sub ((.cons rfl (.cons rfl (.cons rfl (.cons rfl .nil))))), hM, (by omega)⟩
  ·
   have hre : r = i.cost.length := by omega
   refine Ends.exit rfl ?_
   replace hA : St 25 [(3, _)] a := hA.sub ((.cons rfl .nil))
   refine Ends.seq (Ends.region ?_)
   refine S.val hA (R.move rfl) rfl ?_; clear hA a; intro a hA
   refine S.val hA (R.assign rfl) rfl ?_; clear hA a; intro a hA
   refine S.done ?_
   refine Ends.ret1 Try.func18 Try.results18 hA rfl ?_
   exact ⟨by unfold totI; rw [if_neg (not_not_intro hz), ← hre], Mem.trans0 hbs hM.nilL⟩
set_option maxRecDepth 100000 in
set_option maxHeartbeats 400000 in
theorem rperm08 (ay : Option Addr) (x : List Int) (cy : Nat) (n : Nat) (w : World) (hy : IntSl w (.slice ay x.length cy) x) :
  Calls Try.prog 45 #[.slice ay x.length cy, .int .i64 ((n : Int))] w fun e w' => e = .returned (.bool (decide (permP x n))) ∧ Below w.heap.size w w' := by
 have hbs := Below.refl (B := w.heap.size) w
 have hM := Mem.start w
 refine Calls.of_ends (vs := [.slice ay x.length cy, .int .i64 ((n : Int))]) Try.func45 rfl Try.ntmps45 rfl ?_
 intro a hA
 replace hA : St 32 [(0, _), (1, _)] a := hA
 refine Ends.seq (Ends.region ?_)
 refine S.val hA (R.assign rfl) rfl ?_; clear hA a; intro a hA
 refine S.done ?_
 refine Ends.seq (Ends.seq (Ends.region ?_))
 refine S.val hA (R.move rfl) rfl ?_; clear hA a; intro a hA
 refine S.val hA (R.lenS Try.underlying22 rfl rfl) rfl ?_; clear hA a; intro a hA
 refine S.val hA (R.move rfl) rfl ?_; clear hA a; intro a hA
 refine S.val hA (R.neq rfl rfl) rfl ?_; clear hA a; intro a hA
 refine S.done ?_
 replace hA : St 32 [(0, _), (1, _), (11, _)] a := hA.sub ((.cons rfl (.cons rfl (.cons rfl .nil))))
 refine Ends.ite hA rfl (fun hc1 => ?_) (fun hc1 => ?_)
 ·
  refine Ends.seq (Ends.region ?_)
  refine S.val hA (R.assign rfl) rfl ?_; clear hA a; intro a hA
  refine S.done ?_
  refine Ends.ret1 Try.func45 Try.results45 hA rfl ?_
  exact ⟨congrArg (fun b => Ending.returned (.bool b)) (decide_eq_false (fun h => hc1 (by have := h.1; omega))).symm, Mem.trans0 hbs hM.nilL⟩
 ·
  have hln : x.length = n := by omega
  have hlx := hy.lenB
  refine Ends.skip (Ends.seq (Ends.seq (Ends.region ?_)))
  refine S.val hA (R.assign rfl) rfl ?_; clear hA a; intro a hA
  refine S.done ?_
  refine Ends.block ?_
  refine Ends.loop (σ := Nat) (fun k (a : Act) (wv : World) => St 32 [(0, .slice ay x.length cy), (1, .int .i64 ((n : Int))), (5, .int .i64 ((k : Int)))] a ∧ Mem w nof [] wv ∧ (k ≤ n) ∧ (∀ j, j < k → x.count ((j : Nat) : Int) = 1)) (fun k => n - k) 0 ⟨hA.sub ((.cons rfl (.cons rfl (.cons rfl .nil)))), hM, (Nat.zero_le _), (fun j h => absurd h (Nat.not_lt_zero j))⟩ ?_
  clear hA hM a
  rintro k a w1 ⟨hA, hM, hk, hall⟩ hNext
  refine Ends.seq (Ends.seq (Ends.region ?_))
  refine S.val hA (R.move rfl) rfl ?_; clear hA a; intro a hA
  refine S.val hA (R.move rfl) rfl ?_; clear hA a; intro a hA
  refine S.val hA (R.lss rfl rfl) rfl ?_; clear hA a; intro a hA
  refine S.done ?_
  refine Ends.ite hA rfl (fun hc2 => ?_) (fun hc2 => ?_)
  ·
   have hkn : k < n := by omega
   refine Ends.skip (Ends.seq (Ends.block (Ends.seq (Ends.region ?_))))
   refine S.val hA (R.assign rfl) rfl ?_; clear hA a; intro a hA
   refine S.done ?_
   refine Ends.seq (Ends.seq (Ends.region ?_))
   refine S.val hA (R.assign rfl) rfl ?_; clear hA a; intro a hA
   refine S.done ?_
   refine Ends.block ?_
   refine Ends.loop (σ := Nat) (fun j (a : Act) (wv : World) => St 32 [(0, .slice ay x.length cy), (1, .int .i64 ((n : Int))), (5, .int .i64 ((k : Int))), (6, .int .i64 (cntI x k j)), (7, .int .i64 ((j : Int)))] a ∧ Mem w nof [] wv ∧ (j ≤ n)) (fun j => n - j) 0 ⟨hA.sub ((.cons rfl (.cons rfl (.cons rfl (.cons rfl (.cons rfl .nil)))))), hM, (Nat.zero_le _)⟩ ?_
   clear hA hM a
   rintro j a w2 ⟨hA, hM, hj⟩ hNext1
   refine Ends.seq (Ends.seq (Ends.region ?_))
   refine S.val hA (R.move rfl) rfl ?_; clear hA a; intro a hA
   refine S.val hA (R.move rfl) rfl ?_; clear hA a; intro a hA
   refine S.val hA (R.lss rfl rfl) rfl ?_; clear hA a; intro a hA
   refine S.done ?_
   refine Ends.ite hA rfl (fun hc3 => ?_) (fun hc3 => ?_)
   ·
    have hj9 : j < x.length := by omega
    have hcb := cntI_bd x k j
    have hcs := cntI_step (k := k) hj9
    refine Ends.skip (Ends.seq (Ends.block (Ends.seq (Ends.region ?_))))
    refine S.val hA (R.move rfl) rfl ?_; clear hA a; intro a hA
    refine S.val hA (R.move rfl) rfl ?_; clear hA a; intro a hA
    refine S.val hA (R.idxI hy (j := j) sl22 rfl rfl (by omega) (rfl)) rfl ?_; clear hA a; intro a hA
    refine S.val hA (R.loadI (hy.mem hM) sz3 rfl (by omega)) rfl ?_; clear hA a; intro a hA
    refine S.val hA (R.move rfl) rfl ?_; clear hA a; intro a hA
    refine S.val hA (R.eql rfl rfl) rfl ?_; clear hA a; intro a hA
    refine S.done ?_
    replace hA : St 32 [(0, _), (1, _), (5, _), (6, _), (7, _), (27, _)] a := hA.sub ((.cons rfl (.cons rfl (.cons rfl (.cons rfl (.cons rfl (.cons rfl .nil)))))))
    refine Ends.ite hA rfl (fun hc4 => ?_) (fun hc4 => ?_)
    ·
     rw [if_pos hc4] at hcs
     refine Ends.region ?_
     refine S.val hA (R.move rfl) rfl ?_; clear hA a; intro a hA
     refine S.val hA (R.addI rfl rfl (r := (cntI x k j) + 1) rfl (by omega)) rfl ?_; clear hA a; intro a hA
     refine S.val hA (R.assign rfl) rfl ?_; clear hA a; intro a hA
     refine S.done ?_
     refine Ends.inBlock (Ends.region ?_)
     refine S.val hA (R.move rfl) rfl ?_; clear hA a; intro a hA
     refine S.val hA (R.addI rfl rfl (r := ((j : Int)) + 1) rfl (by omega)) rfl ?_; clear hA a; intro a hA
     refine S.val hA (R.assign rfl) rfl ?_; clear hA a; intro a hA
     refine S.done ?_
     replace hA : St 32 [(0, _), (1, _), (5, _), (6, _), (7, _)] a := hA.sub ((.cons rfl (.cons rfl (.cons rfl (.cons rfl (.cons rfl .nil))))))
     have hc9 : cntI x k (j + 1) = (cntI x k j) + 1 := by omega
     rw [← hc9] at hA
     exact hNext1 ((j + 1)) _ _ ((by show n - (j + 1) < n - j; omega)) ⟨hA.sub ((.cons rfl (.cons rfl (.cons rfl (.cons rfl (.cons rfl .nil)))))), hM, (by omega)⟩
    ·
     rw [if_neg hc4] at hcs
     refine Ends.skip (Ends.inBlock (Ends.region ?_))
     refine S.val hA (R.move rfl) rfl ?_; clear hA a; intro a hA
     refine S.val hA (R.addI rfl rfl (r := ((j : Int)) + 1) rfl (by omega)) rfl ?_; clear hA a; intro a hA
     refine S.val hA (R.assign rfl) rfl ?_; clear hA a; intro a hA
     refine S.done ?_
     have hc9 : cntI x k (j + 1) = cntI x k j := by omega
     rw [← hc9] at hA
     exact hNext1 ((j + 1)) _ _ ((by show n - (j + 1) < n - j; omega)) ⟨hA.sub ((.cons rfl (.cons rfl (.cons rfl (.cons rfl (.cons rfl .nil)))))), hM, (by omega)⟩
   ·
    have hje : j = x.length := by omega
    refine Ends.exit rfl ?_
    replace hA : St 32 [(0, _), (1, _), (5, _), (6, _)] a := hA.sub ((.cons rfl (.cons rfl (.cons rfl (.cons rfl .nil)))))
    refine Ends.seq (Ends.region ?_)
    refine S.val hA (R.move rfl) rfl ?_; clear hA a; intro a hA
    refine S.val hA (R.neq rfl rfl) rfl ?_; clear hA a; intro a hA
    refine S.done ?_
    refine Ends.ite hA rfl (fun hc5 => ?_) (fun hc5 => ?_)
    ·
     refine Ends.seq (Ends.region ?_)
     refine S.val hA (R.assign rfl) rfl ?_; clear hA a; intro a hA
     refine S.done ?_
     refine Ends.ret1 Try.func45 Try.results45 hA rfl ?_
     have hno := perm_no (n := n) hkn (by rw [← hje]; exact hc5)
     exact ⟨congrArg (fun b => Ending.returned (.bool b)) (decide_eq_false hno).symm, Mem.trans0 hbs hM.nilL⟩
    ·
     refine Ends.skip (Ends.inBlock (Ends.region ?_))
     refine S.val hA (R.move rfl) rfl ?_; clear hA a; intro a hA
     refine S.val hA (R.addI rfl rfl (r := ((k : Int)) + 1) rfl (by omega)) rfl ?_; clear hA a; intro a hA
     refine S.val hA (R.assign rfl) rfl ?_; clear hA a; intro a hA
     refine S.done ?_
     replace hA : St 32 [(0, _), (1, _), (5, _)] a := hA.sub ((.cons rfl (.cons rfl (.cons rfl .nil))))
     have hall2 := perm_step hall (by rw [← hje]; exact Decidable.not_not.1 hc5)
     exact hNext ((k + 1)) _ _ ((by show n - (k + 1) < n - k; omega)) ⟨hA.sub ((.cons rfl (.cons rfl (.cons rfl .nil)))), hM, (by omega), hall2⟩
  ·
   have hke : k = n := by omega
   refine Ends.exit rfl ?_
   replace hA : St 32 [] a := hA.sub (.nil)
   refine Ends.seq (Ends.region ?_)
   refine S.val hA (R.assign rfl) rfl ?_; clear hA a; intro a hA
   refine S.done ?_
   refine Ends.ret1 Try.func45 Try.results45 hA rfl ?_
   exact ⟨congrArg (fun b => Ending.returned (.bool b)) (decide_eq_true (p := permP x n) ⟨hln, fun j hj => hall j (by omega)⟩).symm, Mem.trans0 hbs hM.nilL⟩
set_option maxRecDepth 100000 in
set_option maxHeartbeats 400000 in
theorem rcost08 (i : Ins) (ax3 : Option Addr) (cx3 : Nat) (ax4 : Option Addr) (cx4 : Nat) (ax5 : Option Addr) (cx5 : Nat) (ay : Option Addr) (x : List Int) (cy : Nat) (w : World) (hx3 : IntSl w (.slice ax3 i.wt.length cx3) i.wt) (hx4 : IntSl w (.slice ax4 i.vl.length cx4) i.vl) (hx5 : RowsV w (.slice ax5 i.cost.length cx5) i.cost) (hy : IntSl w (.slice ay x.length cy) x) :
  Calls Try.prog 20 #[.agg #[.int .i64 i.kind, .int .i64 i.n, .int .i64 i.cap, .slice ax3 i.wt.length cx3, .slice ax4 i.vl.length cx4, .slice ax5 i.cost.length cx5], .slice ay x.length cy] w fun e w' => e = .returned (.tuple #[.int .i64 (costI i x).1, .int .i64 (costI i x).2]) ∧ Below w.heap.size w w' := by
 have hbs := Below.refl (B := w.heap.size) w
 have hM := Mem.start w
 refine Calls.of_ends (vs := [.agg #[.int .i64 i.kind, .int .i64 i.n, .int .i64 i.cap, .slice ax3 i.wt.length cx3, .slice ax4 i.vl.length cx4, .slice ax5 i.cost.length cx5], .slice ay x.length cy]) Try.func20 rfl Try.ntmps20 rfl ?_
 intro a hA
 replace hA : St 126 [(0, _), (1, _)] a := hA
 refine Ends.seq (Ends.region ?_)
 refine S.box hA hM rfl rfl ?_; clear hA hM a; intro b1 w1 hb2 hM a hA
 replace hM : Mem _ _ [pt b1 #[.int .i64 i.kind, .int .i64 i.n, .int .i64 i.cap, .slice ax3 i.wt.length cx3, .slice ax4 i.vl.length cx4, .slice ax5 i.cost.length cx5] 25] _ := hM
 refine S.val hA (R.assign rfl) rfl ?_; clear hA a; intro a hA
 refine S.val hA (R.assign rfl) rfl ?_; clear hA a; intro a hA
 refine S.done ?_
 refine Ends.seq (Ends.seq (Ends.region ?_))
 refine S.val hA (R.loadA sz25 rfl (hM.range (k := 0) rfl) rfl) rfl ?_; clear hA a; intro a hA
 refine S.call hA (R.callF Try.func15 rfl rfl rfl) rfl (rcheck05 i ax3 cx3 ax4 cx4 ax5 cx5 _ (hx3.mem hM) (hx4.mem hM) (hx5.mem hM)) ?_; clear hA a
 rintro e w2 ⟨rfl, hb⟩
 replace hM := hM.callB hb; clear hb
 refine ⟨.int .i64 (chk i), rfl, fun a hA => ?_⟩
 refine S.val hA (R.assign rfl) rfl ?_; clear hA a; intro a hA
 refine S.done ?_
 replace hA : St 126 [(1, _), (2, _), (6, _)] a := hA.sub ((.cons rfl (.cons rfl (.cons rfl .nil))))
 refine Ends.seq (Ends.region ?_)
 refine S.val hA (R.move rfl) rfl ?_; clear hA a; intro a hA
 refine S.val hA (R.neq rfl rfl) rfl ?_; clear hA a; intro a hA
 refine S.done ?_
 refine Ends.ite hA rfl (fun hc3 => ?_) (fun hc3 => ?_)
 ·
  refine Ends.seq (Ends.region ?_)
  refine S.val hA (R.move rfl) rfl ?_; clear hA a; intro a hA
  refine S.val hA (R.assign rfl) rfl ?_; clear hA a; intro a hA
  refine S.val hA (R.assign rfl) rfl ?_; clear hA a; intro a hA
  refine S.done ?_
  replace hA : St 126 [(1, _), (2, _), (4, _), (5, _)] a := hA.sub ((.cons rfl (.cons rfl (.cons rfl (.cons rfl .nil)))))
  refine Ends.ret2 Try.func20 Try.results20 hA rfl rfl ?_
  have he : costI i x = (0, chk i) := if_pos hc3
  exact ⟨by rw [he], Mem.trans0 hbs hM.nilL⟩
 ·
  have hz : chk i = 0 := Decidable.not_not.1 hc3
  have hF := chk_inF hz
  have f2 := hF.n1
  have f3 := hF.n64
  have f5 := hF.wt
  have f6 := hF.vl
  have f7 := hF.cost
  have hlx0 := inF_len hF
  have hlx := hy.lenB
  refine Ends.skip (Ends.seq (Ends.seq (Ends.region ?_)))
  refine S.val hA (R.fieldAddr (q := 0) fi25_0 rfl rfl rfl) rfl ?_; clear hA a; intro a hA
  refine S.val hA (R.load sz3 rfl (hM.cell (k := 0) rfl rfl)) rfl ?_; clear hA a; intro a hA
  refine S.val hA (R.neq rfl rfl) rfl ?_; clear hA a; intro a hA
  refine S.done ?_
  replace hA : St 126 [(1, _), (2, _), (19, _)] a := hA.sub ((.cons rfl (.cons rfl (.cons rfl .nil))))
  refine Ends.ite hA rfl (fun hc4 => ?_) (fun hc4 => ?_)
  ·
   have hkn : ¬ i.kind = 1 := hc4
   have f4 := hF.n24 hkn
   rw [if_neg hkn] at f7
   obtain ⟨n, hn⟩ : ∃ n : Nat, i.n = (n : Int) := ⟨i.n.toNat, by omega⟩
   have hnt : i.n.toNat = n := by omega
   rw [hn] at hM
   replace hM : Mem _ _ [pt b1 #[.int .i64 i.kind, .int .i64 ((n : Int)), .int .i64 i.cap, .slice ax3 i.wt.length cx3, .slice ax4 i.vl.length cx4, .slice ax5 i.cost.length cx5] 25] _ := hM
   refine Ends.seq (Ends.seq ?_)
   refine Ends.cut (fun (a : Act) (wv : World) => St 126 [(1, .slice ay x.length cy), (2, .pointer (some ⟨b1, 0, none⟩)), (35, .bool (decide ((¬ (permP x n) ∨ (i.kind = 3 ∧ (x.getD 0 0) ≠ 0)))))] a ∧ Mem w nof [pt b1 #[.int .i64 i.kind, .int .i64 ((n : Int)), .int .i64 i.cap, .slice ax3 i.wt.length cx3, .slice ax4 i.vl.length cx4, .slice ax5 i.cost.length cx5] 25] wv) ?_ (fun k2 hJ => ?_)
   ·
    clear hA hM a; rintro a w3 ⟨hA, hM⟩
    refine Ends.ite hA rfl (fun hc5 => ?_) (fun hc5 => ?_)
    ·
     refine Ends.seq (Ends.region ?_)
     refine S.val hA (R.assign rfl) rfl ?_; clear hA a; intro a hA
     refine S.val hA (R.assign rfl) rfl ?_; clear hA a; intro a hA
     refine S.done ?_
     refine Ends.ret2 Try.func20 Try.results20 hA rfl rfl ?_
     have hno : ¬ ordP i x := fun h9 => by have h8 := h9.1; rw [hnt] at h8; rcases hc5 with g | g; exact g h8; exact g.2 (h9.2 g.1)
     have he : costI i x = (0, 1) := by rw [costI_or hz hkn, if_pos hno]
     exact ⟨by rw [he], Mem.trans0 hbs hM.nilL⟩
    ·
     have hp : permP x n := Classical.byContradiction fun h9 => hc5 (.inl h9)
     have ho : ordP i x := ⟨by rw [hnt]; exact hp, fun h3 => Classical.byContradiction fun h9 => hc5 (.inr ⟨h3, h9⟩)⟩
     have hlp := hp.1
     refine Ends.skip (Ends.seq (Ends.region ?_))
     refine S.val hA (R.assign rfl) rfl ?_; clear hA a; intro a hA
     refine S.done ?_
     refine Ends.seq (Ends.seq (Ends.region ?_))
     refine S.val hA (R.assign rfl) rfl ?_; clear hA a; intro a hA
     refine S.done ?_
     refine Ends.block ?_
     refine Ends.loop (σ := Nat) (fun k (a : Act) (wv : World) => St 126 [(1, .slice ay x.length cy), (2, .pointer (some ⟨b1, 0, none⟩)), (7, .int .i64 (sumF (stp i x) k)), (8, .int .i64 ((k : Int)))] a ∧ Mem w nof [pt b1 #[.int .i64 i.kind, .int .i64 ((n : Int)), .int .i64 i.cap, .slice ax3 i.wt.length cx3, .slice ax4 i.vl.length cx4, .slice ax5 i.cost.length cx5] 25] wv ∧ (k ≤ x.length)) (fun k => x.length - k) 0 ⟨hA.sub ((.cons rfl (.cons rfl (.cons rfl (.cons rfl .nil))))), hM, (Nat.zero_le _)⟩ ?_
     clear hA hM a
     rintro k a w4 ⟨hA, hM, hk⟩ hNext
     refine Ends.seq (Ends.seq (Ends.region ?_))
     refine S.val hA (R.move rfl) rfl ?_; clear hA a; intro a hA
     refine S.val hA (R.fieldAddr (q := 1) fi25_1 rfl rfl rfl) rfl ?_; clear hA a; intro a hA
     refine S.val hA (R.load sz3 rfl (hM.cell (k := 0) rfl rfl)) rfl ?_; clear hA a; intro a hA
     refine S.val hA (R.lss rfl rfl) rfl ?_; clear hA a; intro a hA
     refine S.done ?_
     refine Ends.ite hA rfl (fun hc6 => ?_) (fun hc6 => ?_)
     ·
      have hkl : k < n := by omega
      have s1 := stp_bd hF x k (by omega)
      have p1 := hp.at_ hkl
      have hrw := hF.row
      have g1 := hF.row k (by omega)
      have g2 := hF.row (x.getD k 0).toNat (by omega)
      have hml := Nat.mod_lt (k + 1) (show 0 < n by omega)
      have p2 := hp.at_ hml
      have hmod : ((k : Int) + 1) % (n : Int) = (((k + 1) % n : Nat) : Int) := by push_cast; rfl
      have d1 := cl2_bd hF k (x.getD k 0)
      have d2 := cl2_bd hF (x.getD k 0) (x.getD ((k + 1) % n) 0)
      have e1 : cl2 i k (x.getD k 0) = (i.cost.getD k []).getD (x.getD k 0).toNat 0 := rfl
      have e2 : cl2 i (x.getD k 0) (x.getD ((k + 1) % n) 0) = (i.cost.getD (x.getD k 0).toNat []).getD (x.getD ((k + 1) % n) 0).toNat 0 := rfl
      refine Ends.skip (Ends.seq (Ends.block (Ends.seq (Ends.region ?_))))
      refine S.val hA (R.fieldAddr (q := 0) fi25_0 rfl rfl rfl) rfl ?_; clear hA a; intro a hA
      refine S.val hA (R.load sz3 rfl (hM.cell (k := 0) rfl rfl)) rfl ?_; clear hA a; intro a hA
      refine S.val hA (R.eql rfl rfl) rfl ?_; clear hA a; intro a hA
      refine S.done ?_
      replace hA : St 126 [(1, _), (2, _), (7, _), (8, _), (44, _)] a := hA.sub ((.cons rfl (.cons rfl (.cons rfl (.cons rfl (.cons rfl .nil))))))
      refine Ends.ite hA rfl (fun hc7 => ?_) (fun hc7 => ?_)
      ·
       refine Ends.drawn (Mem w nof [pt b1 #[.int .i64 i.kind, .int .i64 ((n : Int)), .int .i64 i.cap, .slice ax3 i.wt.length cx3, .slice ax4 i.vl.length cx4, .slice ax5 i.cost.length cx5] 25]) (.cons (0, true) (.cons (1, true) (.cons (2, true) (.cons (3, true) (.cons (4, true) (.cons (5, true) (.cons (6, true) (.cons (7, true) (.cons (8, true) (.cons (9, true) (.cons (10, true) (.cons (11, true) (.cons (12, true) (.cons (13, true) .nil)))))))))))))) 14 mixed (by kernel_rfl) (by kernel_rfl) (by kernel_rfl) hM.drew ?_
       replace hM := hM.drew
       refine D.valF hA rfl (fun _ => R.move rfl) rfl ?_; clear hA a; intro a hA
       refine D.valF hA rfl (fun _ => R.fieldAddr (q := 5) fi25_5 rfl rfl rfl) rfl ?_; clear hA a; intro a hA
       refine D.val hA rfl (by kernel_rfl) (fun _ hM => R.load sz23 rfl (hM.cell (k := 0) rfl rfl)) rfl ?_; clear hA a; intro a hA
       refine D.valF hA rfl (fun _ => R.move rfl) rfl ?_; clear hA a; intro a hA
       refine D.valF hA rfl (fun _ => R.idxR hx5 (j := k) sl23 rfl rfl (by first | omega | exact hmod | (rw [hmod]; omega) | (have h9 := Decidable.not_not.1 ‹¬ ¬ permP x n›; have h8 := h9.1; omega)) (by first | omega | exact hmod | (rw [hmod]; omega) | (have h9 := Decidable.not_not.1 ‹¬ ¬ permP x n›; have h8 := h9.1; omega))) rfl ?_; clear hA a; intro a hA
       obtain ⟨ra8, rc9, hrow10, hld11⟩ := hx5.atP (i := k) (by first | omega | exact hmod | (rw [hmod]; omega) | (have h9 := Decidable.not_not.1 ‹¬ ¬ permP x n›; have h8 := h9.1; omega))
       refine D.val hA rfl (by kernel_rfl) (fun _ hM => hld11 _ _ _ _ _ _ hM sz22 rfl) rfl ?_; clear hA a; intro a hA
       refine D.valF hA rfl (fun _ => R.move rfl) rfl ?_; clear hA a; intro a hA
       refine D.valF hA rfl (fun _ => R.move rfl) rfl ?_; clear hA a; intro a hA
       refine D.valF hA rfl (fun _ => R.idxI hy (j := k) sl22 rfl rfl (by first | omega | exact hmod | (rw [hmod]; omega) | (have h9 := Decidable.not_not.1 ‹¬ ¬ permP x n›; have h8 := h9.1; omega)) (rfl)) rfl ?_; clear hA a; intro a hA
       refine D.val hA rfl (by kernel_rfl) (fun _ hM => R.loadI (hy.mem hM) sz3 rfl (by first | omega | exact hmod | (rw [hmod]; omega) | (have h9 := Decidable.not_not.1 ‹¬ ¬ permP x n›; have h8 := h9.1; omega))) rfl ?_; clear hA a; intro a hA
       refine D.valF hA rfl (fun _ => R.idxI hrow10 (j := (x.getD k 0).toNat) sl22 rfl rfl (by first | omega | exact hmod | (rw [hmod]; omega) | (have h9 := Decidable.not_not.1 ‹¬ ¬ permP x n›; have h8 := h9.1; omega)) (rfl)) rfl ?_; clear hA a; intro a hA
       refine D.val hA rfl (by kernel_rfl) (fun _ hM => R.loadI (hrow10.mem hM) sz3 rfl (by first | omega | exact hmod | (rw [hmod]; omega) | (have h9 := Decidable.not_not.1 ‹¬ ¬ permP x n›; have h8 := h9.1; omega))) rfl ?_; clear hA a; intro a hA
       refine D.valF hA rfl (fun _ => R.addI rfl rfl (r := (sumF (stp i x) k) + (((i.cost.getD k [])).getD ((x.getD k 0).toNat) 0)) rfl (by first | omega | exact hmod | (rw [hmod]; omega) | (have h9 := Decidable.not_not.1 ‹¬ ¬ permP x n›; have h8 := h9.1; omega))) rfl ?_; clear hA a; intro a hA
       refine D.valF hA rfl (fun _ => R.assign rfl) rfl ?_; clear hA a; intro a hA
       refine D.done ?_
       replace hA : St 126 [(1, _), (2, _), (7, _), (8, _)] a := hA.sub ((.cons rfl (.cons rfl (.cons rfl (.cons rfl .nil)))))
       refine Ends.inBlock (Ends.region ?_)
       refine S.val hA (R.move rfl) rfl ?_; clear hA a; intro a hA
       refine S.val hA (R.addI rfl rfl (r := ((k : Int)) + 1) rfl (by first | omega | exact hmod | (rw [hmod]; omega) | (have h9 := Decidable.not_not.1 ‹¬ ¬ permP x n›; have h8 := h9.1; omega))) rfl ?_; clear hA a; intro a hA
       refine S.val hA (R.assign rfl) rfl ?_; clear hA a; intro a hA
       refine S.done ?_
       have hs9 : sumF (stp i x) (k + 1) = (sumF (stp i x) k) + (((i.cost.getD k [])).getD ((x.getD k 0).toNat) 0) := by simp only [sumF, stp]; rw [if_pos hc7]; rfl
       rw [← hs9] at hA
       exact hNext ((k + 1)) _ _ ((by show x.length - (k + 1) < x.length - k; omega)) ⟨hA.sub ((.cons rfl (.cons rfl (.cons rfl (.cons rfl .nil))))), hM, (by omega)⟩
      ·
       refine Ends.drawn (Mem w nof [pt b1 #[.int .i64 i.kind, .int .i64 ((n : Int)), .int .i64 i.cap, .slice ax3 i.wt.length cx3, .slice ax4 i.vl.length cx4, .slice ax5 i.cost.length cx5] 25]) (.cons (0, true) (.cons (1, true) (.cons (2, true) (.cons (3, true) (.cons (4, true) (.cons (5, true) (.cons (6, true) (.cons (7, true) (.cons (8, true) (.cons (9, true) (.cons (10, true) (.cons (11, true) (.cons (12, true) (.cons (13, true) (.cons (14, true) (.cons (15, true) (.cons (16, true) (.cons (17, true) (.cons (18, true) (.cons (19, true) (.cons (20, true) .nil))))))))))))))))))))) 21 mixed (by kernel_rfl) (by kernel_rfl) (by kernel_rfl) hM.drew ?_
       replace hM := hM.drew
       refine D.valF hA rfl (fun _ => R.move rfl) rfl ?_; clear hA a; intro a hA
       refine D.valF hA rfl (fun _ => R.fieldAddr (q := 5) fi25_5 rfl rfl rfl) rfl ?_; clear hA a; intro a hA
       refine D.val hA rfl (by kernel_rfl) (fun _ hM => R.load sz23 rfl (hM.cell (k := 0) rfl rfl)) rfl ?_; clear hA a; intro a hA
       refine D.valF hA rfl (fun _ => R.move rfl) rfl ?_; clear hA a; intro a hA
       refine D.valF hA rfl (fun _ => R.move rfl) rfl ?_; clear hA a; intro a hA
       refine D.valF hA rfl (fun _ => R.idxI hy (j := k) sl22 rfl rfl (by first | omega | exact hmod | (rw [hmod]; omega) | (have h9 := Decidable.not_not.1 ‹¬ ¬ permP x n›; have h8 := h9.1; omega)) (rfl)) rfl ?_; clear hA a; intro a hA
       refine D.val hA rfl (by kernel_rfl) (fun _ hM => R.loadI (hy.mem hM) sz3 rfl (by first | omega | exact hmod | (rw [hmod]; omega) | (have h9 := Decidable.not_not.1 ‹¬ ¬ permP x n›; have h8 := h9.1; omega))) rfl ?_; clear hA a; intro a hA
       refine D.valF hA rfl (fun _ => R.idxR hx5 (j := (x.getD k 0).toNat) sl23 rfl rfl (by first | omega | exact hmod | (rw [hmod]; omega) | (have h9 := Decidable.not_not.1 ‹¬ ¬ permP x n›; have h8 := h9.1; omega)) (rfl)) rfl ?_; clear hA a; intro a hA
       obtain ⟨ra12, rc13, hrow14, hld15⟩ := hx5.atP (i := (x.getD k 0).toNat) (by first | omega | exact hmod | (rw [hmod]; omega) | (have h9 := Decidable.not_not.1 ‹¬ ¬ permP x n›; have h8 := h9.1; omega))
       refine D.val hA rfl (by kernel_rfl) (fun _ hM => hld15 _ _ _ _ _ _ hM sz22 rfl) rfl ?_; clear hA a; intro a hA
       refine D.valF hA rfl (fun _ => R.move rfl) rfl ?_; clear hA a; intro a hA
       refine D.valF hA rfl (fun _ => R.move rfl) rfl ?_; clear hA a; intro a hA
       refine D.valF hA rfl (fun _ => R.addI rfl rfl (r := ((k : Int)) + 1) rfl (by first | omega | exact hmod | (rw [hmod]; omega) | (have h9 := Decidable.not_not.1 ‹¬ ¬ permP x n›; have h8 := h9.1; omega))) rfl ?_; clear hA a; intro a hA
       refine D.valF hA rfl (fun _ => R.fieldAddr (q := 1) fi25_1 rfl rfl rfl) rfl ?_; clear hA a; intro a hA
       refine D.val hA rfl (by kernel_rfl) (fun _ hM => R.load sz3 rfl (hM.cell (k := 0) rfl rfl)) rfl ?_; clear hA a; intro a hA
       refine D.valF hA rfl (fun _ => R.remI rfl rfl (r := (((k + 1) % n : Nat) : Int)) (by first | omega | exact hmod | (rw [hmod]; omega) | (have h9 := Decidable.not_not.1 ‹¬ ¬ permP x n›; have h8 := h9.1; omega)) (by first | omega | exact hmod | (rw [hmod]; omega) | (have h9 := Decidable.not_not.1 ‹¬ ¬ permP x n›; have h8 := h9.1; omega))) rfl ?_; clear hA a; intro a hA
       refine D.valF hA rfl (fun _ => R.idxI hy (j := ((k + 1) % n)) sl22 rfl rfl (by first | omega | exact hmod | (rw [hmod]; omega) | (have h9 := Decidable.not_not.1 ‹¬ ¬ permP x n›; have h8 := h9.1; omega)) (by first | omega | exact hmod | (rw [hmod]; omega) | (have h9 := Decidable.not_not.1 ‹¬ ¬ permP x n›; have h8 := h9.1; omega))) rfl ?_; clear hA a; intro a hA
       refine D.val hA rfl (by kernel_rfl) (fun _ hM => R.loadI (hy.mem hM) sz3 rfl (by first | omega | exact hmod | (rw [hmod]; omega) | (have h9 := Decidable.not_not.1 ‹¬ ¬ permP x n›; have h8 := h9.1; omega))) rfl ?_; clear hA a; intro a hA
       refine D.valF hA rfl (fun _ => R.idxI hrow14 (j := (x.getD (((k + 1) % n)) 0).toNat) sl22 rfl rfl (by first | omega | exact hmod | (rw [hmod]; omega) | (have h9 := Decidable.not_not.1 ‹¬ ¬ permP x n›; have h8 := h9.1; omega)) (rfl)) rfl ?_; clear hA a; intro a hA
       refine D.val hA rfl (by kernel_rfl) (fun _ hM => R.loadI (hrow14.mem hM) sz3 rfl (by first | omega | exact hmod | (rw [hmod]; omega) | (have h9 := Decidable.not_not.1 ‹¬ ¬ permP x n›; have h8 := h9.1; omega))) rfl ?_; clear hA a; intro a hA
       refine D.valF hA rfl (fun _ => R.addI rfl rfl (r := (sumF (stp i x) k) + (((i.cost.getD ((x.getD k 0).toNat) [])).getD ((x.getD (((k + 1) % n)) 0).toNat) 0)) rfl (by first | omega | exact hmod | (rw [hmod]; omega) | (have h9 := Decidable.not_not.1 ‹¬ ¬ permP x n›; have h8 := h9.1; omega))) rfl ?_; clear hA a; intro a hA
       refine D.valF hA rfl (fun _ => R.assign rfl) rfl ?_; clear hA a; intro a hA
       refine D.done ?_
       replace hA : St 126 [(1, _), (2, _), (7, _), (8, _)] a := hA.sub ((.cons rfl (.cons rfl (.cons rfl (.cons rfl .nil)))))
       refine Ends.inBlock (Ends.region ?_)
       refine S.val hA (R.move rfl) rfl ?_; clear hA a; intro a hA
       refine S.val hA (R.addI rfl rfl (r := ((k : Int)) + 1) rfl (by first | omega | exact hmod | (rw [hmod]; omega) | (have h9 := Decidable.not_not.1 ‹¬ ¬ permP x n›; have h8 := h9.1; omega))) rfl ?_; clear hA a; intro a hA
       refine S.val hA (R.assign rfl) rfl ?_; clear hA a; intro a hA
       refine S.done ?_
       have hs9 : sumF (stp i x) (k + 1) = (sumF (stp i x) k) + (((i.cost.getD ((x.getD k 0).toNat) [])).getD ((x.getD (((k + 1) % n)) 0).toNat) 0) := by simp only [sumF, stp]; rw [if_neg hc7]; rw [hnt]; rfl
       rw [← hs9] at hA
       exact hNext ((k + 1)) _ _ ((by show x.length - (k + 1) < x.length - k; omega)) ⟨hA.sub ((.cons rfl (.cons rfl (.cons rfl (.cons rfl .nil))))), hM, (by omega)⟩
     ·
      have hke : k = i.n.toNat := by omega
      refine Ends.exit rfl ?_
      replace hA : St 126 [(1, _), (2, _), (7, _)] a := hA.sub ((.cons rfl (.cons rfl (.cons rfl .nil))))
      refine Ends.seq (Ends.region ?_)
      refine S.val hA (R.move rfl) rfl ?_; clear hA a; intro a hA
      refine S.val hA (R.assign rfl) rfl ?_; clear hA a; intro a hA
      refine S.val hA (R.assign rfl) rfl ?_; clear hA a; intro a hA
      refine S.done ?_
      refine Ends.ret2 Try.func20 Try.results20 hA rfl rfl ?_
      have he : costI i x = (sumF (stp i x) i.n.toNat, 0) := by rw [costI_or hz hkn, if_neg (not_not_intro ho)]
      exact ⟨by rw [he, hke], Mem.trans0 hbs hM.nilL⟩
   ·
    refine Ends.region ?_
    refine S.val hA (R.move rfl) rfl ?_; clear hA a; intro a hA
    refine S.val hA (R.fieldAddr (q := 1) fi25_1 rfl rfl rfl) rfl ?_; clear hA a; intro a hA
    refine S.val hA (R.load sz3 rfl (hM.cell (k := 0) rfl rfl)) rfl ?_; clear hA a; intro a hA
    refine S.call hA (R.callF Try.func45 rfl rfl rfl) rfl (rperm08 ay x cy n _ (hy.mem hM)) ?_; clear hA a
    rintro e w5 ⟨rfl, hb⟩
    replace hM := hM.callB hb; clear hb
    refine ⟨.bool (decide (permP x n)), rfl, fun a hA => ?_⟩
    refine S.val hA (R.notD rfl) rfl ?_; clear hA a; intro a hA
    refine S.val hA (R.move rfl) rfl ?_; clear hA a; intro a hA
    refine hA.split (d := 25) rfl ?_ ?_
    ·
     clear hA; intro hg16 hA
     refine S.no (dj := 25) hA (by kernel_rfl) rfl rfl rfl ?_; clear hA a; intro a hA
     refine S.no (dj := 25) hA (by kernel_rfl) rfl rfl rfl ?_; clear hA a; intro a hA
     refine S.no (dj := 25) hA (by kernel_rfl) rfl rfl rfl ?_; clear hA a; intro a hA
     refine S.no (dj := 25) hA (by kernel_rfl) rfl rfl rfl ?_; clear hA a; intro a hA
     refine S.noU (dj := 29) hA (by kernel_rfl) rfl rfl ?_; clear hA a; intro a hA
     refine S.noU (dj := 29) hA (by kernel_rfl) rfl rfl ?_; clear hA a; intro a hA
     refine S.noU (dj := 29) hA (by kernel_rfl) rfl rfl ?_; clear hA a; intro a hA
     refine S.noU (dj := 29) hA (by kernel_rfl) rfl rfl ?_; clear hA a; intro a hA
     refine S.no (dj := 25) hA (by kernel_rfl) rfl rfl rfl ?_; clear hA a; intro a hA
     refine S.val hA (R.pickT rfl rfl) rfl ?_; clear hA a; intro a hA
     refine S.done ?_
     replace hA : St 126 [(1, _), (2, _), (35, _)] a := hA.sub ((.cons rfl (.cons rfl (.cons rfl .nil))))
     exact hJ _ _ ⟨hA.sub (.cons rfl (.cons rfl (.cons (by first | rfl | exact congrArg (fun b => some (Value.bool b)) (by first | exact decide_eq_decide.2 (by omega) | exact or_bool (by omega) | exact and_bool (by omega) | (simp; done) | (simp [hg16]; done) | (have h80 := hg16; (try simp at h80); simp [h80]; done) | exact (decide_eq_false (fun h9 => hg16 h9.1)).symm)) .nil))), hM⟩
    ·
     clear hA; intro hg16 hA
     refine S.valg (dj := 25) hA (by kernel_rfl) rfl (R.fieldAddr (q := 0) fi25_0 rfl rfl rfl) rfl ?_; clear hA a; intro a hA
     refine S.valg (dj := 25) hA (by kernel_rfl) rfl (R.load sz3 rfl (hM.cell (k := 0) rfl rfl)) rfl ?_; clear hA a; intro a hA
     refine S.valg (dj := 25) hA (by kernel_rfl) rfl (R.eql rfl rfl) rfl ?_; clear hA a; intro a hA
     refine S.valg (dj := 25) hA (by kernel_rfl) rfl (R.move rfl) rfl ?_; clear hA a; intro a hA
     refine hA.split (d := 29) rfl ?_ ?_
     ·
      clear hA; intro hg17 hA
      refine S.valg (dj := 29) hA (by kernel_rfl) rfl (R.move rfl) rfl ?_; clear hA a; intro a hA
      refine S.valg (dj := 29) hA (by kernel_rfl) rfl (R.idxI hy (j := 0) sl22 rfl rfl (by first | omega | exact hmod | (rw [hmod]; omega) | (have h9 := Decidable.not_not.1 ‹¬ ¬ permP x n›; have h8 := h9.1; omega)) (rfl)) rfl ?_; clear hA a; intro a hA
      refine S.valg (dj := 29) hA (by kernel_rfl) rfl (R.loadI (hy.mem hM) sz3 rfl (by first | omega | exact hmod | (rw [hmod]; omega) | (have h9 := Decidable.not_not.1 ‹¬ ¬ permP x n›; have h8 := h9.1; omega))) rfl ?_; clear hA a; intro a hA
      refine S.valg (dj := 29) hA (by kernel_rfl) rfl (R.neq rfl rfl) rfl ?_; clear hA a; intro a hA
      refine S.valg (dj := 25) hA (by kernel_rfl) rfl (R.pickT rfl rfl) rfl ?_; clear hA a; intro a hA
      refine S.val hA (R.pickF rfl rfl) rfl ?_; clear hA a; intro a hA
      refine S.done ?_
      replace hA : St 126 [(1, _), (2, _), (35, _)] a := hA.sub ((.cons rfl (.cons rfl (.cons rfl .nil))))
      exact hJ _ _ ⟨hA.sub (.cons rfl (.cons rfl (.cons (by first | rfl | exact congrArg (fun b => some (Value.bool b)) (by first | exact decide_eq_decide.2 (by omega) | exact or_bool (by omega) | exact and_bool (by omega) | (simp; done) | (simp [hg16, hg17]; done) | (have h80 := hg16; (try simp at h80); have h81 := hg17; (try simp at h81); simp [h80, h81]; done) | exact (decide_eq_false (fun h9 => hg16 h9.1)).symm | exact (decide_eq_false (fun h9 => hg17 h9.1)).symm)) .nil))), hM⟩
     ·
      clear hA; intro hg17 hA
      refine S.no (dj := 29) hA (by kernel_rfl) rfl rfl rfl ?_; clear hA a; intro a hA
      refine S.no (dj := 29) hA (by kernel_rfl) rfl rfl rfl ?_; clear hA a; intro a hA
      refine S.no (dj := 29) hA (by kernel_rfl) rfl rfl rfl ?_; clear hA a; intro a hA
      refine S.no (dj := 29) hA (by kernel_rfl) rfl rfl rfl ?_; clear hA a; intro a hA
      refine S.valg (dj := 25) hA (by kernel_rfl) rfl (R.pickF rfl rfl) rfl ?_; clear hA a; intro a hA
      refine S.val hA (R.pickF rfl rfl) rfl ?_; clear hA a; intro a hA
      refine S.done ?_
      replace hA : St 126 [(1, _), (2, _), (35, _)] a := hA.sub ((.cons rfl (.cons rfl (.cons rfl .nil))))
      exact hJ _ _ ⟨hA.sub (.cons rfl (.cons rfl (.cons (by first | rfl | exact congrArg (fun b => some (Value.bool b)) (by first | exact decide_eq_decide.2 (by omega) | exact or_bool (by omega) | exact and_bool (by omega) | (simp; done) | (simp [hg16, hg17]; done) | (have h80 := hg16; (try simp at h80); have h81 := hg17; (try simp at h81); simp [h80, h81]; done) | exact (decide_eq_false (fun h9 => hg16 h9.1)).symm | exact (decide_eq_false (fun h9 => hg17 h9.1)).symm)) .nil))), hM⟩
  ·
   have hkn : i.kind = 1 := Decidable.not_not.1 hc4
   rw [if_pos hkn] at f5 f6
   refine Ends.skip (Ends.seq (Ends.seq (Ends.region ?_)))
   refine S.val hA (R.move rfl) rfl ?_; clear hA a; intro a hA
   refine S.val hA (R.lenS Try.underlying22 rfl rfl) rfl ?_; clear hA a; intro a hA
   refine S.val hA (R.fieldAddr (q := 1) fi25_1 rfl rfl rfl) rfl ?_; clear hA a; intro a hA
   refine S.val hA (R.load sz3 rfl (hM.cell (k := 0) rfl rfl)) rfl ?_; clear hA a; intro a hA
   refine S.val hA (R.neq rfl rfl) rfl ?_; clear hA a; intro a hA
   refine S.done ?_
   replace hA : St 126 [(1, _), (2, _), (83, _)] a := hA.sub ((.cons rfl (.cons rfl (.cons rfl .nil))))
   refine Ends.ite hA rfl (fun hc18 => ?_) (fun hc18 => ?_)
   ·
    refine Ends.seq (Ends.region ?_)
    refine S.val hA (R.assign rfl) rfl ?_; clear hA a; intro a hA
    refine S.val hA (R.assign rfl) rfl ?_; clear hA a; intro a hA
    refine S.done ?_
    refine Ends.ret2 Try.func20 Try.results20 hA rfl rfl ?_
    have he : costI i x = (0, 1) := by rw [costI_kn hz hkn]; exact if_pos hc18
    exact ⟨by rw [he], Mem.trans0 hbs hM.nilL⟩
   ·
    have hln : (x.length : Int) = i.n := Decidable.not_not.1 hc18
    refine Ends.skip (Ends.seq (Ends.region ?_))
    refine S.val hA (R.assign rfl) rfl ?_; clear hA a; intro a hA
    refine S.val hA (R.assign rfl) rfl ?_; clear hA a; intro a hA
    refine S.done ?_
    refine Ends.seq (Ends.seq (Ends.region ?_))
    refine S.val hA (R.assign rfl) rfl ?_; clear hA a; intro a hA
    refine S.done ?_
    refine Ends.block ?_
    refine Ends.loop (σ := Nat) (fun k (a : Act) (wv : World) => St 126 [(1, .slice ay x.length cy), (2, .pointer (some ⟨b1, 0, none⟩)), (9, .int .i64 (sumF (wtF i x) k)), (10, .int .i64 (sumF (vlF i x) k)), (11, .int .i64 ((k : Int)))] a ∧ Mem w nof [pt b1 #[.int .i64 i.kind, .int .i64 i.n, .int .i64 i.cap, .slice ax3 i.wt.length cx3, .slice ax4 i.vl.length cx4, .slice ax5 i.cost.length cx5] 25] wv ∧ (k ≤ x.length) ∧ (∀ q, q < k → x.getD q 0 = 0 ∨ x.getD q 0 = 1)) (fun k => x.length - k) 0 ⟨hA.sub ((.cons rfl (.cons rfl (.cons rfl (.cons rfl (.cons rfl .nil)))))), hM, (Nat.zero_le _), (fun q h => absurd h (Nat.not_lt_zero q))⟩ ?_
    clear hA hM a
    rintro k a w6 ⟨hA, hM, hk, hbit⟩ hNext1
    refine Ends.seq (Ends.seq (Ends.region ?_))
    refine S.val hA (R.move rfl) rfl ?_; clear hA a; intro a hA
    refine S.val hA (R.fieldAddr (q := 1) fi25_1 rfl rfl rfl) rfl ?_; clear hA a; intro a hA
    refine S.val hA (R.load sz3 rfl (hM.cell (k := 0) rfl rfl)) rfl ?_; clear hA a; intro a hA
    refine S.val hA (R.lss rfl rfl) rfl ?_; clear hA a; intro a hA
    refine S.done ?_
    refine Ends.ite hA rfl (fun hc19 => ?_) (fun hc19 => ?_)
    ·
     have g1 := hF.wtr k
     have g2 := hF.vlr k
     have s1 := wtF_bd hF x k (by omega)
     have s2 := vlF_bd hF x k (by omega)
     refine Ends.skip (Ends.seq (Ends.block (Ends.seq (Ends.seq ?_))))
     refine Ends.cut (fun (a : Act) (wv : World) => St 126 [(1, .slice ay x.length cy), (2, .pointer (some ⟨b1, 0, none⟩)), (9, .int .i64 (sumF (wtF i x) k)), (10, .int .i64 (sumF (vlF i x) k)), (11, .int .i64 ((k : Int))), (101, .bool (decide (((x.getD k 0) ≠ 0 ∧ (x.getD k 0) ≠ 1))))] a ∧ Mem w nof [pt b1 #[.int .i64 i.kind, .int .i64 i.n, .int .i64 i.cap, .slice ax3 i.wt.length cx3, .slice ax4 i.vl.length cx4, .slice ax5 i.cost.length cx5] 25] wv) ?_ (fun k2 hJ => ?_)
     ·
      clear hA hM a; rintro a w7 ⟨hA, hM⟩
      refine Ends.ite hA rfl (fun hc20 => ?_) (fun hc20 => ?_)
      ·
       refine Ends.seq (Ends.region ?_)
       refine S.val hA (R.assign rfl) rfl ?_; clear hA a; intro a hA
       refine S.val hA (R.assign rfl) rfl ?_; clear hA a; intro a hA
       refine S.done ?_
       refine Ends.ret2 Try.func20 Try.results20 hA rfl rfl ?_
       have he : costI i x = (0, 1) := by rw [costI_kn hz hkn]; unfold knpI; rw [if_neg (not_not_intro hln), if_pos (fun hb9 => by have h9 := hb9 k (by omega); have h8 := hc20; omega)]
       exact ⟨by rw [he], Mem.trans0 hbs hM.nilL⟩
      ·
       refine Ends.skip (Ends.seq (Ends.region ?_))
       refine S.val hA (R.move rfl) rfl ?_; clear hA a; intro a hA
       refine S.val hA (R.move rfl) rfl ?_; clear hA a; intro a hA
       refine S.val hA (R.idxI hy (j := k) sl22 rfl rfl (by first | omega | exact hmod | (rw [hmod]; omega) | (have h9 := Decidable.not_not.1 ‹¬ ¬ permP x n›; have h8 := h9.1; omega)) (rfl)) rfl ?_; clear hA a; intro a hA
       refine S.val hA (R.loadI (hy.mem hM) sz3 rfl (by first | omega | exact hmod | (rw [hmod]; omega) | (have h9 := Decidable.not_not.1 ‹¬ ¬ permP x n›; have h8 := h9.1; omega))) rfl ?_; clear hA a; intro a hA
       refine S.val hA (R.eql rfl rfl) rfl ?_; clear hA a; intro a hA
       refine S.done ?_
       replace hA : St 126 [(1, _), (2, _), (9, _), (10, _), (11, _), (106, _)] a := hA.sub ((.cons rfl (.cons rfl (.cons rfl (.cons rfl (.cons rfl (.cons rfl .nil)))))))
       refine Ends.ite hA rfl (fun hc21 => ?_) (fun hc21 => ?_)
       ·
        refine Ends.region ?_
        refine S.val hA (R.move rfl) rfl ?_; clear hA a; intro a hA
        refine S.val hA (R.fieldAddr (q := 3) fi25_3 rfl rfl rfl) rfl ?_; clear hA a; intro a hA
        refine S.val hA (R.load sz22 rfl (hM.cell (k := 0) rfl rfl)) rfl ?_; clear hA a; intro a hA
        refine S.val hA (R.move rfl) rfl ?_; clear hA a; intro a hA
        refine S.val hA (R.idxI hx3 (j := k) sl22 rfl rfl (by first | omega | exact hmod | (rw [hmod]; omega) | (have h9 := Decidable.not_not.1 ‹¬ ¬ permP x n›; have h8 := h9.1; omega)) (rfl)) rfl ?_; clear hA a; intro a hA
        refine S.val hA (R.loadI (hx3.mem hM) sz3 rfl (by first | omega | exact hmod | (rw [hmod]; omega) | (have h9 := Decidable.not_not.1 ‹¬ ¬ permP x n›; have h8 := h9.1; omega))) rfl ?_; clear hA a; intro a hA
        refine S.val hA (R.addI rfl rfl (r := (sumF (wtF i x) k) + (i.wt.getD k 0)) rfl (by first | omega | exact hmod | (rw [hmod]; omega) | (have h9 := Decidable.not_not.1 ‹¬ ¬ permP x n›; have h8 := h9.1; omega))) rfl ?_; clear hA a; intro a hA
        refine S.val hA (R.assign rfl) rfl ?_; clear hA a; intro a hA
        refine S.done ?_
        replace hA : St 126 [(1, _), (2, _), (9, _), (10, _), (11, _)] a := hA.sub ((.cons rfl (.cons rfl (.cons rfl (.cons rfl (.cons rfl .nil))))))
        refine Ends.inBlock (Ends.region ?_)
        refine S.val hA (R.move rfl) rfl ?_; clear hA a; intro a hA
        refine S.val hA (R.addI rfl rfl (r := ((k : Int)) + 1) rfl (by first | omega | exact hmod | (rw [hmod]; omega) | (have h9 := Decidable.not_not.1 ‹¬ ¬ permP x n›; have h8 := h9.1; omega))) rfl ?_; clear hA a; intro a hA
        refine S.val hA (R.assign rfl) rfl ?_; clear hA a; intro a hA
        refine S.done ?_
        have hw9 : sumF (wtF i x) (k + 1) = (sumF (wtF i x) k) + (i.wt.getD k 0) := by simp only [sumF, wtF]; rw [if_pos hc21]
        have hv9 : sumF (vlF i x) (k + 1) = sumF (vlF i x) k := by simp only [sumF, vlF]; rw [if_pos hc21]; omega
        rw [← hw9, ← hv9] at hA
        exact hNext1 ((k + 1)) _ _ ((by show x.length - (k + 1) < x.length - k; omega)) ⟨hA.sub ((.cons rfl (.cons rfl (.cons rfl (.cons rfl (.cons rfl .nil)))))), hM, (by omega), (fun q hq => by rcases Nat.lt_succ_iff_lt_or_eq.1 hq with g | g; exact hbit q g; rw [g]; omega)⟩
       ·
        refine Ends.region ?_
        refine S.val hA (R.move rfl) rfl ?_; clear hA a; intro a hA
        refine S.val hA (R.fieldAddr (q := 4) fi25_4 rfl rfl rfl) rfl ?_; clear hA a; intro a hA
        refine S.val hA (R.load sz22 rfl (hM.cell (k := 0) rfl rfl)) rfl ?_; clear hA a; intro a hA
        refine S.val hA (R.move rfl) rfl ?_; clear hA a; intro a hA
        refine S.val hA (R.idxI hx4 (j := k) sl22 rfl rfl (by first | omega | exact hmod | (rw [hmod]; omega) | (have h9 := Decidable.not_not.1 ‹¬ ¬ permP x n›; have h8 := h9.1; omega)) (rfl)) rfl ?_; clear hA a; intro a hA
        refine S.val hA (R.loadI (hx4.mem hM) sz3 rfl (by first | omega | exact hmod | (rw [hmod]; omega) | (have h9 := Decidable.not_not.1 ‹¬ ¬ permP x n›; have h8 := h9.1; omega))) rfl ?_; clear hA a; intro a hA
        refine S.val hA (R.addI rfl rfl (r := (sumF (vlF i x) k) + (i.vl.getD k 0)) rfl (by first | omega | exact hmod | (rw [hmod]; omega) | (have h9 := Decidable.not_not.1 ‹¬ ¬ permP x n›; have h8 := h9.1; omega))) rfl ?_; clear hA a; intro a hA
        refine S.val hA (R.assign rfl) rfl ?_; clear hA a; intro a hA
        refine S.done ?_
        replace hA : St 126 [(1, _), (2, _), (9, _), (10, _), (11, _)] a := hA.sub ((.cons rfl (.cons rfl (.cons rfl (.cons rfl (.cons rfl .nil))))))
        refine Ends.inBlock (Ends.region ?_)
        refine S.val hA (R.move rfl) rfl ?_; clear hA a; intro a hA
        refine S.val hA (R.addI rfl rfl (r := ((k : Int)) + 1) rfl (by first | omega | exact hmod | (rw [hmod]; omega) | (have h9 := Decidable.not_not.1 ‹¬ ¬ permP x n›; have h8 := h9.1; omega))) rfl ?_; clear hA a; intro a hA
        refine S.val hA (R.assign rfl) rfl ?_; clear hA a; intro a hA
        refine S.done ?_
        have hw9 : sumF (wtF i x) (k + 1) = sumF (wtF i x) k := by simp only [sumF, wtF]; rw [if_neg hc21]; omega
        have hv9 : sumF (vlF i x) (k + 1) = (sumF (vlF i x) k) + (i.vl.getD k 0) := by simp only [sumF, vlF]; rw [if_neg hc21]
        rw [← hw9, ← hv9] at hA
        exact hNext1 ((k + 1)) _ _ ((by show x.length - (k + 1) < x.length - k; omega)) ⟨hA.sub ((.cons rfl (.cons rfl (.cons rfl (.cons rfl (.cons rfl .nil)))))), hM, (by omega), (fun q hq => by rcases Nat.lt_succ_iff_lt_or_eq.1 hq with g | g; exact hbit q g; rw [g]; omega)⟩
     ·
      refine Ends.region ?_
      refine S.val hA (R.move rfl) rfl ?_; clear hA a; intro a hA
      refine S.val hA (R.move rfl) rfl ?_; clear hA a; intro a hA
      refine S.val hA (R.idxI hy (j := k) sl22 rfl rfl (by first | omega | exact hmod | (rw [hmod]; omega) | (have h9 := Decidable.not_not.1 ‹¬ ¬ permP x n›; have h8 := h9.1; omega)) (rfl)) rfl ?_; clear hA a; intro a hA
      refine S.val hA (R.loadI (hy.mem hM) sz3 rfl (by first | omega | exact hmod | (rw [hmod]; omega) | (have h9 := Decidable.not_not.1 ‹¬ ¬ permP x n›; have h8 := h9.1; omega))) rfl ?_; clear hA a; intro a hA
      refine S.val hA (R.neq rfl rfl) rfl ?_; clear hA a; intro a hA
      refine S.val hA (R.move rfl) rfl ?_; clear hA a; intro a hA
      refine hA.split (d := 95) rfl ?_ ?_
      ·
       clear hA; intro hg22 hA
       refine S.valg (dj := 95) hA (by kernel_rfl) rfl (R.move rfl) rfl ?_; clear hA a; intro a hA
       refine S.valg (dj := 95) hA (by kernel_rfl) rfl (R.move rfl) rfl ?_; clear hA a; intro a hA
       refine S.valg (dj := 95) hA (by kernel_rfl) rfl (R.idxI hy (j := k) sl22 rfl rfl (by first | omega | exact hmod | (rw [hmod]; omega) | (have h9 := Decidable.not_not.1 ‹¬ ¬ permP x n›; have h8 := h9.1; omega)) (rfl)) rfl ?_; clear hA a; intro a hA
       refine S.valg (dj := 95) hA (by kernel_rfl) rfl (R.loadI (hy.mem hM) sz3 rfl (by first | omega | exact hmod | (rw [hmod]; omega) | (have h9 := Decidable.not_not.1 ‹¬ ¬ permP x n›; have h8 := h9.1; omega))) rfl ?_; clear hA a; intro a hA
       refine S.valg (dj := 95) hA (by kernel_rfl) rfl (R.neq rfl rfl) rfl ?_; clear hA a; intro a hA
       refine S.val hA (R.pickT rfl rfl) rfl ?_; clear hA a; intro a hA
       refine S.done ?_
       replace hA : St 126 [(1, _), (2, _), (9, _), (10, _), (11, _), (101, _)] a := hA.sub ((.cons rfl (.cons rfl (.cons rfl (.cons rfl (.cons rfl (.cons rfl .nil)))))))
       exact hJ _ _ ⟨hA.sub (.cons rfl (.cons rfl (.cons rfl (.cons rfl (.cons rfl (.cons (by first | rfl | exact congrArg (fun b => some (Value.bool b)) (by first | exact decide_eq_decide.2 (by omega) | exact or_bool (by omega) | exact and_bool (by omega) | (simp; done) | (simp [hg22]; done) | (have h80 := hg22; (try simp at h80); simp [h80]; done) | exact (decide_eq_false (fun h9 => hg22 h9.1)).symm)) .nil)))))), hM⟩
      ·
       clear hA; intro hg22 hA
       refine S.no (dj := 95) hA (by kernel_rfl) rfl rfl rfl ?_; clear hA a; intro a hA
       refine S.no (dj := 95) hA (by kernel_rfl) rfl rfl rfl ?_; clear hA a; intro a hA
       refine S.no (dj := 95) hA (by kernel_rfl) rfl rfl rfl ?_; clear hA a; intro a hA
       refine S.no (dj := 95) hA (by kernel_rfl) rfl rfl rfl ?_; clear hA a; intro a hA
       refine S.no (dj := 95) hA (by kernel_rfl) rfl rfl rfl ?_; clear hA a; intro a hA
       refine S.val hA (R.pickF rfl rfl) rfl ?_; clear hA a; intro a hA
       refine S.done ?_
       replace hA : St 126 [(1, _), (2, _), (9, _), (10, _), (11, _), (101, _)] a := hA.sub ((.cons rfl (.cons rfl (.cons rfl (.cons rfl (.cons rfl (.cons rfl .nil)))))))
       exact hJ _ _ ⟨hA.sub (.cons rfl (.cons rfl (.cons rfl (.cons rfl (.cons rfl (.cons (by first | rfl | exact congrArg (fun b => some (Value.bool b)) (by first | exact decide_eq_decide.2 (by omega) | exact or_bool (by omega) | exact and_bool (by omega) | (simp; done) | (simp [hg22]; done) | (have h80 := hg22; (try simp at h80); simp [h80]; done) | exact (decide_eq_false (fun h9 => hg22 h9.1)).symm)) .nil)))))), hM⟩
    ·
     have hke : k = x.length := by omega
     refine Ends.exit rfl ?_
     replace hA : St 126 [(2, _), (9, _), (10, _)] a := hA.sub ((.cons rfl (.cons rfl (.cons rfl .nil))))
     refine Ends.seq (Ends.seq (Ends.region ?_))
     refine S.val hA (R.move rfl) rfl ?_; clear hA a; intro a hA
     refine S.val hA (R.fieldAddr (q := 2) fi25_2 rfl rfl rfl) rfl ?_; clear hA a; intro a hA
     refine S.val hA (R.load sz3 rfl (hM.cell (k := 0) rfl rfl)) rfl ?_; clear hA a; intro a hA
     refine S.val hA (R.gtr rfl rfl) rfl ?_; clear hA a; intro a hA
     refine S.done ?_
     replace hA : St 126 [(10, _), (124, _)] a := hA.sub ((.cons rfl (.cons rfl .nil)))
     refine Ends.ite hA rfl (fun hc23 => ?_) (fun hc23 => ?_)
     ·
      refine Ends.seq (Ends.region ?_)
      refine S.val hA (R.assign rfl) rfl ?_; clear hA a; intro a hA
      refine S.val hA (R.assign rfl) rfl ?_; clear hA a; intro a hA
      refine S.done ?_
      refine Ends.ret2 Try.func20 Try.results20 hA rfl rfl ?_
      rw [hke] at hbit
      replace hbit : bitP x x.length := hbit
      have hf9 := hc23
      rw [hke] at hf9
      have he : costI i x = (0, 9) := by rw [costI_kn hz hkn]; unfold knpI; rw [if_neg (not_not_intro hln), if_neg (not_not_intro hbit), if_pos hf9]
      exact ⟨by rw [he], Mem.trans0 hbs hM.nilL⟩
     ·
      refine Ends.skip (Ends.seq (Ends.region ?_))
      refine S.val hA (R.move rfl) rfl ?_; clear hA a; intro a hA
      refine S.val hA (R.assign rfl) rfl ?_; clear hA a; intro a hA
      refine S.val hA (R.assign rfl) rfl ?_; clear hA a; intro a hA
      refine S.done ?_
      refine Ends.ret2 Try.func20 Try.results20 hA rfl rfl ?_
      rw [hke] at hbit
      replace hbit : bitP x x.length := hbit
      have hf9 := hc23
      rw [hke] at hf9
      have he : costI i x = (sumF (vlF i x) x.length, 0) := by rw [costI_kn hz hkn]; unfold knpI; rw [if_neg (not_not_intro hln), if_neg (not_not_intro hbit), if_neg hf9]
      exact ⟨by rw [he, hke], Mem.trans0 hbs hM.nilL⟩
set_option maxRecDepth 100000 in
set_option maxHeartbeats 400000 in
theorem rtot08 (i : Ins) (ax3 : Option Addr) (cx3 : Nat) (ax4 : Option Addr) (cx4 : Nat) (ax5 : Option Addr) (cx5 : Nat) (w : World) (hx3 : IntSl w (.slice ax3 i.wt.length cx3) i.wt) (hx4 : IntSl w (.slice ax4 i.vl.length cx4) i.vl) (hx5 : RowsV w (.slice ax5 i.cost.length cx5) i.cost) :
  Calls Try.prog 22 #[.agg #[.int .i64 i.kind, .int .i64 i.n, .int .i64 i.cap, .slice ax3 i.wt.length cx3, .slice ax4 i.vl.length cx4, .slice ax5 i.cost.length cx5]] w fun e w' => e = .returned (.int .i64 (totI i)) ∧ Below w.heap.size w w' := by
 have hbs := Below.refl (B := w.heap.size) w
 have hM := Mem.start w
 refine Calls.of_ends (vs := [.agg #[.int .i64 i.kind, .int .i64 i.n, .int .i64 i.cap, .slice ax3 i.wt.length cx3, .slice ax4 i.vl.length cx4, .slice ax5 i.cost.length cx5]]) Try.func22 rfl Try.ntmps22 rfl ?_
 intro a hA
 replace hA : St 46 [(0, _)] a := hA
 refine Ends.seq (Ends.region ?_)
 refine S.box hA hM rfl rfl ?_; clear hA hM a; intro b1 w1 hb2 hM a hA
 replace hM : Mem _ _ [pt b1 #[.int .i64 i.kind, .int .i64 i.n, .int .i64 i.cap, .slice ax3 i.wt.length cx3, .slice ax4 i.vl.length cx4, .slice ax5 i.cost.length cx5] 25] _ := hM
 refine S.val hA (R.assign rfl) rfl ?_; clear hA a; intro a hA
 refine S.done ?_
 refine Ends.seq (Ends.seq (Ends.region ?_))
 refine S.val hA (R.loadA sz25 rfl (hM.range (k := 0) rfl) rfl) rfl ?_; clear hA a; intro a hA
 refine S.call hA (R.callF Try.func15 rfl rfl rfl) rfl (rcheck05 i ax3 cx3 ax4 cx4 ax5 cx5 _ (hx3.mem hM) (hx4.mem hM) (hx5.mem hM)) ?_; clear hA a
 rintro e w2 ⟨rfl, hb⟩
 replace hM := hM.callB hb; clear hb
 refine ⟨.int .i64 (chk i), rfl, fun a hA => ?_⟩
 refine S.val hA (R.neq rfl rfl) rfl ?_; clear hA a; intro a hA
 refine S.done ?_
 replace hA : St 46 [(1, _), (9, _)] a := hA.sub ((.cons rfl (.cons rfl .nil)))
 refine Ends.ite hA rfl (fun hc3 => ?_) (fun hc3 => ?_)
 ·
  refine Ends.seq (Ends.region ?_)
  refine S.val hA (R.assign rfl) rfl ?_; clear hA a; intro a hA
  refine S.done ?_
  refine Ends.ret1 Try.func22 Try.results22 hA rfl ?_
  exact ⟨by unfold totI; rw [if_pos hc3], Mem.trans0 hbs hM.nilL⟩
 ·
  have hz : chk i = 0 := Decidable.not_not.1 hc3
  have hF := chk_inF hz
  have f2 := hF.n1
  have f3 := hF.n64
  have f5 := hF.wt
  have f6 := hF.vl
  have f7 := hF.cost
  have hlx0 := inF_len hF
  have hrow := hF.row
  refine Ends.skip (Ends.seq (Ends.region ?_))
  refine S.val hA (R.assign rfl) rfl ?_; clear hA a; intro a hA
  refine S.done ?_
  refine Ends.seq (Ends.seq (Ends.region ?_))
  refine S.val hA (R.assign rfl) rfl ?_; clear hA a; intro a hA
  refine S.done ?_
  refine Ends.block ?_
  refine Ends.loop (σ := Nat) (fun k (a : Act) (wv : World) => St 46 [(1, .pointer (some ⟨b1, 0, none⟩)), (3, .int .i64 (sumF (rtF i) k)), (4, .int .i64 ((k : Int)))] a ∧ Mem w nof [pt b1 #[.int .i64 i.kind, .int .i64 i.n, .int .i64 i.cap, .slice ax3 i.wt.length cx3, .slice ax4 i.vl.length cx4, .slice ax5 i.cost.length cx5] 25] wv ∧ (k ≤ i.n.toNat)) (fun k => i.n.toNat - k) 0 ⟨hA.sub ((.cons rfl (.cons rfl (.cons rfl .nil)))), hM, (Nat.zero_le _)⟩ ?_
  clear hA hM a
  rintro k a w3 ⟨hA, hM, hk⟩ hNext
  refine Ends.seq (Ends.seq (Ends.region ?_))
  refine S.val hA (R.move rfl) rfl ?_; clear hA a; intro a hA
  refine S.val hA (R.fieldAddr (q := 1) fi25_1 rfl rfl rfl) rfl ?_; clear hA a; intro a hA
  refine S.val hA (R.load sz3 rfl (hM.cell (k := 0) rfl rfl)) rfl ?_; clear hA a; intro a hA
  refine S.val hA (R.lss rfl rfl) rfl ?_; clear hA a; intro a hA
  refine S.done ?_
  refine Ends.ite hA rfl (fun hc4 => ?_) (fun hc4 => ?_)
  ·
   have hmx := sumF_bd (f := rtF i) (B := 2147483647) (by decide) (k := k) (fun q _ => rtF_bd hF q)
   have hmr := rtF_bd hF k
   have hkn : k < i.n.toNat := by omega
   refine Ends.skip (Ends.seq (Ends.block (Ends.seq (Ends.seq (Ends.region ?_)))))
   refine S.val hA (R.fieldAddr (q := 0) fi25_0 rfl rfl rfl) rfl ?_; clear hA a; intro a hA
   refine S.val hA (R.load sz3 rfl (hM.cell (k := 0) rfl rfl)) rfl ?_; clear hA a; intro a hA
   refine S.val hA (R.eql rfl rfl) rfl ?_; clear hA a; intro a hA
   refine S.done ?_
   replace hA : St 46 [(1, _), (3, _), (4, _), (18, _)] a := hA.sub ((.cons rfl (.cons rfl (.cons rfl (.cons rfl .nil)))))
   refine Ends.ite hA rfl (fun hc5 => ?_) (fun hc5 => ?_)
   ·
    rw [if_pos hc5] at f5 f6 f7
    have hrt : rtF i k = i.vl.getD k 0 := if_pos hc5
    refine Ends.seq (Ends.region ?_)
    refine S.val hA (R.move rfl) rfl ?_; clear hA a; intro a hA
    refine S.val hA (R.fieldAddr (q := 4) fi25_4 rfl rfl rfl) rfl ?_; clear hA a; intro a hA
    refine S.val hA (R.load sz22 rfl (hM.cell (k := 0) rfl rfl)) rfl ?_; clear hA a; intro a hA
    refine S.val hA (R.move rfl) rfl ?_; clear hA a; intro a hA
    refine S.val hA (R.idxI hx4 (j := k) sl22 rfl rfl (by omega) (rfl)) rfl ?_; clear hA a; intro a hA
    refine S.val hA (R.loadI (hx4.mem hM) sz3 rfl (by omega)) rfl ?_; clear hA a; intro a hA
    refine S.val hA (R.addI rfl rfl (r := (sumF (rtF i) k) + (i.vl.getD k 0)) rfl (by omega)) rfl ?_; clear hA a; intro a hA
    refine S.val hA (R.assign rfl) rfl ?_; clear hA a; intro a hA
    refine S.done ?_
    replace hA : St 46 [(1, _), (3, _), (4, _)] a := hA.sub ((.cons rfl (.cons rfl (.cons rfl .nil))))
    refine Ends.exit rfl ?_
    refine Ends.region ?_
    refine S.val hA (R.move rfl) rfl ?_; clear hA a; intro a hA
    refine S.val hA (R.addI rfl rfl (r := ((k : Int)) + 1) rfl (by omega)) rfl ?_; clear hA a; intro a hA
    refine S.val hA (R.assign rfl) rfl ?_; clear hA a; intro a hA
    refine S.done ?_
    have hs9 : sumF (rtF i) (k + 1) = (sumF (rtF i) k) + (i.vl.getD k 0) := by simp only [sumF]; rw [hrt]
    rw [← hs9] at hA
    exact hNext ((k + 1)) _ _ ((by show i.n.toNat - (k + 1) < i.n.toNat - k; omega)) ⟨hA.sub ((.cons rfl (.cons rfl (.cons rfl .nil)))), hM, (by omega)⟩
   ·
    rw [if_neg hc5] at f5 f6 f7
    have hrt : rtF i k = mxR i k := if_neg hc5
    have hrk := hrow k (by omega)
    refine Ends.skip (Ends.seq (Ends.region ?_))
    refine S.val hA (R.assign rfl) rfl ?_; clear hA a; intro a hA
    refine S.done ?_
    refine Ends.seq (Ends.seq (Ends.region ?_))
    refine S.val hA (R.assign rfl) rfl ?_; clear hA a; intro a hA
    refine S.done ?_
    refine Ends.block ?_
    refine Ends.loop (σ := Nat) (fun c (a : Act) (wv : World) => St 46 [(1, .pointer (some ⟨b1, 0, none⟩)), (3, .int .i64 (sumF (rtF i) k)), (4, .int .i64 ((k : Int))), (5, .int .i64 (mxF (fun c => (i.cost.getD k []).getD c 0) c)), (6, .int .i64 ((c : Int)))] a ∧ Mem w nof [pt b1 #[.int .i64 i.kind, .int .i64 i.n, .int .i64 i.cap, .slice ax3 i.wt.length cx3, .slice ax4 i.vl.length cx4, .slice ax5 i.cost.length cx5] 25] wv ∧ (c ≤ i.n.toNat)) (fun c => i.n.toNat - c) 0 ⟨hA.sub ((.cons rfl (.cons rfl (.cons rfl (.cons rfl (.cons rfl .nil)))))), hM, (Nat.zero_le _)⟩ ?_
    clear hA hM a
    rintro c a w4 ⟨hA, hM, hc⟩ hNext1
    refine Ends.seq (Ends.seq (Ends.region ?_))
    refine S.val hA (R.move rfl) rfl ?_; clear hA a; intro a hA
    refine S.val hA (R.fieldAddr (q := 1) fi25_1 rfl rfl rfl) rfl ?_; clear hA a; intro a hA
    refine S.val hA (R.load sz3 rfl (hM.cell (k := 0) rfl rfl)) rfl ?_; clear hA a; intro a hA
    refine S.val hA (R.lss rfl rfl) rfl ?_; clear hA a; intro a hA
    refine S.done ?_
    refine Ends.ite hA rfl (fun hc6 => ?_) (fun hc6 => ?_)
    ·
     refine Ends.skip (Ends.seq (Ends.block (Ends.region ?_)))
     refine S.val hA (R.move rfl) rfl ?_; clear hA a; intro a hA
     refine S.val hA (R.fieldAddr (q := 5) fi25_5 rfl rfl rfl) rfl ?_; clear hA a; intro a hA
     refine S.val hA (R.load sz23 rfl (hM.cell (k := 0) rfl rfl)) rfl ?_; clear hA a; intro a hA
     refine S.val hA (R.move rfl) rfl ?_; clear hA a; intro a hA
     refine S.val hA (R.idxR hx5 (j := k) sl23 rfl rfl (by omega) (rfl)) rfl ?_; clear hA a; intro a hA
     obtain ⟨ra7, rc8, hrow9, hld10⟩ := hx5.atP (i := k) (by omega)
     refine S.val hA (hld10 _ _ _ _ _ _ hM sz22 rfl) rfl ?_; clear hA a; intro a hA
     refine S.val hA (R.move rfl) rfl ?_; clear hA a; intro a hA
     refine S.val hA (R.idxI hrow9 (j := c) sl22 rfl rfl (by omega) (rfl)) rfl ?_; clear hA a; intro a hA
     refine S.val hA (R.loadI (hrow9.mem hM) sz3 rfl (by omega)) rfl ?_; clear hA a; intro a hA
     refine S.val hA (R.max rfl rfl) rfl ?_; clear hA a; intro a hA
     refine S.val hA (R.assign rfl) rfl ?_; clear hA a; intro a hA
     refine S.done ?_
     replace hA : St 46 [(1, _), (3, _), (4, _), (5, _), (6, _)] a := hA.sub ((.cons rfl (.cons rfl (.cons rfl (.cons rfl (.cons rfl .nil))))))
     refine Ends.inBlock (Ends.region ?_)
     refine S.val hA (R.move rfl) rfl ?_; clear hA a; intro a hA
     refine S.val hA (R.addI rfl rfl (r := ((c : Int)) + 1) rfl (by omega)) rfl ?_; clear hA a; intro a hA
     refine S.val hA (R.assign rfl) rfl ?_; clear hA a; intro a hA
     refine S.done ?_
     exact hNext1 ((c + 1)) _ _ ((by show i.n.toNat - (c + 1) < i.n.toNat - c; omega)) ⟨hA.sub ((.cons rfl (.cons rfl (.cons rfl (.cons rfl (.cons rfl .nil)))))), hM, (by omega)⟩
    ·
     have hce : c = (i.cost.getD k []).length := by omega
     have hmb := mxF_bd (f := fun c => (i.cost.getD k []).getD c 0) (B := 2147483647) (by decide) (k := c) (fun q _ => (hF.cell k q).2)
     refine Ends.exit rfl ?_
     replace hA : St 46 [(1, _), (3, _), (4, _), (5, _)] a := hA.sub ((.cons rfl (.cons rfl (.cons rfl (.cons rfl .nil)))))
     refine Ends.region ?_
     refine S.val hA (R.move rfl) rfl ?_; clear hA a; intro a hA
     refine S.val hA (R.move rfl) rfl ?_; clear hA a; intro a hA
     refine S.val hA (R.addI rfl rfl (r := (sumF (rtF i) k) + (mxF (fun c => (i.cost.getD k []).getD c 0) c)) rfl (by omega)) rfl ?_; clear hA a; intro a hA
     refine S.val hA (R.assign rfl) rfl ?_; clear hA a; intro a hA
     refine S.done ?_
     replace hA : St 46 [(1, _), (3, _), (4, _)] a := hA.sub ((.cons rfl (.cons rfl (.cons rfl .nil))))
     refine Ends.inBlock (Ends.region ?_)
     refine S.val hA (R.move rfl) rfl ?_; clear hA a; intro a hA
     refine S.val hA (R.addI rfl rfl (r := ((k : Int)) + 1) rfl (by omega)) rfl ?_; clear hA a; intro a hA
     refine S.val hA (R.assign rfl) rfl ?_; clear hA a; intro a hA
     refine S.done ?_
     rw [hce] at hA
     have hs9 : sumF (rtF i) (k + 1) = (sumF (rtF i) k) + (mxF (fun c => (i.cost.getD k []).getD c 0) (i.cost.getD k []).length) := by simp only [sumF]; rw [hrt]; rfl
     rw [← hs9] at hA
     exact hNext ((k + 1)) _ _ ((by show i.n.toNat - (k + 1) < i.n.toNat - k; omega)) ⟨hA.sub ((.cons rfl (.cons rfl (.cons rfl .nil)))), hM, (by omega)⟩
  ·
   have hke : k = i.n.toNat := by omega
   refine Ends.exit rfl ?_
   replace hA : St 46 [(3, _)] a := hA.sub ((.cons rfl .nil))
   refine Ends.seq (Ends.region ?_)
   refine S.val hA (R.move rfl) rfl ?_; clear hA a; intro a hA
   refine S.val hA (R.assign rfl) rfl ?_; clear hA a; intro a hA
   refine S.done ?_
   refine Ends.ret1 Try.func22 Try.results22 hA rfl ?_
   exact ⟨by rw [tot_eq hz, hke], Mem.trans0 hbs hM.nilL⟩
set_option maxRecDepth 100000 in
set_option maxHeartbeats 400000 in
theorem rof08 (i : Ins) (ax3 : Option Addr) (cx3 : Nat) (ax4 : Option Addr) (cx4 : Nat) (ax5 : Option Addr) (cx5 : Nat) (c : Int) (hz : chk i = 0) (hc : 0 ≤ c ∧ c ≤ 64 * 2147483647) (w : World) (hx3 : IntSl w (.slice ax3 i.wt.length cx3) i.wt) (hx4 : IntSl w (.slice ax4 i.vl.length cx4) i.vl) (hx5 : RowsV w (.slice ax5 i.cost.length cx5) i.cost) :
  Calls Try.prog 21 #[.agg #[.int .i64 i.kind, .int .i64 i.n, .int .i64 i.cap, .slice ax3 i.wt.length cx3, .slice ax4 i.vl.length cx4, .slice ax5 i.cost.length cx5], .int .i64 c] w fun e w' => e = .returned (.int .i64 (ofI i c)) ∧ Below w.heap.size w w' := by
 have hbs := Below.refl (B := w.heap.size) w
 have htb := tot_bd i
 have hM := Mem.start w
 refine Calls.of_ends (vs := [.agg #[.int .i64 i.kind, .int .i64 i.n, .int .i64 i.cap, .slice ax3 i.wt.length cx3, .slice ax4 i.vl.length cx4, .slice ax5 i.cost.length cx5], .int .i64 c]) Try.func21 rfl Try.ntmps21 rfl ?_
 intro a hA
 replace hA : St 13 [(0, _), (1, _)] a := hA
 refine Ends.seq (Ends.region ?_)
 refine S.box hA hM rfl rfl ?_; clear hA hM a; intro b1 w1 hb2 hM a hA
 replace hM : Mem _ _ [pt b1 #[.int .i64 i.kind, .int .i64 i.n, .int .i64 i.cap, .slice ax3 i.wt.length cx3, .slice ax4 i.vl.length cx4, .slice ax5 i.cost.length cx5] 25] _ := hM
 refine S.val hA (R.assign rfl) rfl ?_; clear hA a; intro a hA
 refine S.done ?_
 refine Ends.seq (Ends.seq (Ends.region ?_))
 refine S.val hA (R.fieldAddr (q := 0) fi25_0 rfl rfl rfl) rfl ?_; clear hA a; intro a hA
 refine S.val hA (R.load sz3 rfl (hM.cell (k := 0) rfl rfl)) rfl ?_; clear hA a; intro a hA
 refine S.val hA (R.eql rfl rfl) rfl ?_; clear hA a; intro a hA
 refine S.done ?_
 replace hA : St 13 [(1, _), (2, _), (7, _)] a := hA.sub ((.cons rfl (.cons rfl (.cons rfl .nil))))
 refine Ends.ite hA rfl (fun hc3 => ?_) (fun hc3 => ?_)
 ·
  refine Ends.seq (Ends.region ?_)
  refine S.val hA (R.loadA sz25 rfl (hM.range (k := 0) rfl) rfl) rfl ?_; clear hA a; intro a hA
  refine S.call hA (R.callF Try.func22 rfl rfl rfl) rfl (rtot08 i ax3 cx3 ax4 cx4 ax5 cx5 _ (hx3.mem hM) (hx4.mem hM) (hx5.mem hM)) ?_; clear hA a
  rintro e w2 ⟨rfl, hb⟩
  replace hM := hM.callB hb; clear hb
  refine ⟨.int .i64 (totI i), rfl, fun a hA => ?_⟩
  refine S.val hA (R.move rfl) rfl ?_; clear hA a; intro a hA
  refine S.val hA (R.subI rfl rfl (r := (totI i) - c) rfl (by omega)) rfl ?_; clear hA a; intro a hA
  refine S.val hA (R.assign rfl) rfl ?_; clear hA a; intro a hA
  refine S.done ?_
  replace hA : St 13 [(1, _), (4, _)] a := hA.sub ((.cons rfl (.cons rfl .nil)))
  refine Ends.ret1 Try.func21 Try.results21 hA rfl ?_
  exact ⟨by rw [of_tot hz hc3], Mem.trans0 hbs hM.nilL⟩
 ·
  refine Ends.skip (Ends.seq (Ends.region ?_))
  refine S.val hA (R.move rfl) rfl ?_; clear hA a; intro a hA
  refine S.val hA (R.assign rfl) rfl ?_; clear hA a; intro a hA
  refine S.done ?_
  replace hA : St 13 [(4, _)] a := hA.sub ((.cons rfl .nil))
  refine Ends.ret1 Try.func21 Try.results21 hA rfl ?_
  exact ⟨by rw [of_same hc3], Mem.trans0 hbs hM.nilL⟩
end Go.Proofs.Ytnikajkklocncaa
namespace Go.Proofs.Ytnikajkklocncaa
open Go.RowKit Go.WideShapes Go.ChangeShapes Go.Deep
section
variable {H : Type} {enc : TypeId × Value → H} {P : Program} {w : World}
theorem trod_ints {t e : TypeId} {fuel : Nat} {cs : List Value} {x : DataW H × List MemPlace} {held : Bool} (ht : P.underlying t = some (.slice e)) (he : P.underlying e = some (.int .i64)) (hce : P.cellsOf e = 1)
    (h : DataW.trod enc P w 0 (fun _ => true) held fuel t cs = some x) : ∃ (u : Value) (l : List Int), cs = [u] ∧ IntSl w u l ∧ ∀ y ∈ l, (Lit.int .i64 y).wf = true := by
  rcases open_ints ht he hce h with ⟨hcs, _⟩ | ⟨x, len, cap, zs, hcs, _, hl, hm, hz, _, hcell, hwz⟩
  · exact ⟨_, [], hcs, IntSl.nil w, fun x hx => by cases hx⟩
  · simp only [if_true] at hz
    refine ⟨_, zs.take len, hcs, ⟨some x, cap, by rw [List.length_take, Nat.min_eq_left (by omega)], by rw [List.length_take]; omega, hm, (fun h => nomatch h), fun hne => ?_⟩, fun y hy => hwz y (List.mem_of_mem_take hy)⟩
    have h0 : 0 < zs.length ∧ 0 < len := by
      rcases Nat.eq_zero_or_pos len with e | e
      · subst e; simp at hne
      · exact ⟨by omega, e⟩
    obtain ⟨b, off, spot⟩ := x
    have hs : spot = none := by
      have h1 := hcell 0 h0.1
      unfold Addr.add at h1
      simp only [if_true] at h1
      cases spot with
      | none => rfl
      | some s =>
        unfold World.cell? at h1
        split at h1 <;> simp at h1
    subst hs
    refine ⟨b, off, rfl, ?_, fun i hi => ?_⟩
    · have h1 := hcell 0 h0.1
      exact World.block_lt_of_cell? w _ h1
    · rw [List.length_take] at hi
      have h1 := hcell i (by omega)
      rw [Addr.add_lit] at h1
      rw [h1]
      congr 2
      simp only [List.getD_eq_getElem?_getD, List.getElem?_take]
      rw [if_pos (by omega)]
theorem trod_rows {t e f : TypeId} {fuel : Nat} {cs : List Value} {x : DataW H × List MemPlace} {held : Bool} (ht : P.underlying t = some (.slice e)) (hu : P.underlying e = some (.slice f)) (hc1 : P.cellsOf e = 1) (he : P.underlying f = some (.int .i64)) (hce : P.cellsOf f = 1)
  (h : DataW.trod enc P w 0 (fun _ => true) held fuel t cs = some x) : ∃ (u : Value) (R : List (List Int)), cs = [u] ∧ RowsV w u R ∧ ∀ r ∈ R, ∀ y ∈ r, (Lit.int .i64 y).wf = true := by
 rcases open_slice ht h with ⟨hcs, _⟩ | ⟨x, len, cap, m, nn, D, Pl, hcs, hb, hl, hm, hmm, -, hx⟩
 · exact ⟨_, [], hcs, RowsV.nil w, fun x hx => by cases hx⟩
 ·
  simp only [if_true] at hmm
  subst hmm
  have each : ∀ i, i < len → ∃ (u : Value) (l : List Int), w.cell? (x.add i) = some u ∧ IntSl w u l ∧ ∀ y ∈ l, (Lit.int .i64 y).wf = true := by
   intro i hi
   obtain ⟨cs', h1, h2⟩ := hx i (by omega)
   obtain ⟨u, l, rfl, h3, h4⟩ := trod_ints hu he hce h2
   rw [hc1, Nat.mul_one] at h1
   obtain ⟨-, hlen, hcell⟩ := World.cells?_some h1
   have h5 := hcell 0 (by omega)
   refine ⟨u, l, ?_, h3, h4⟩
   have e0 : (x.add i).add 0 = x.add i := by simp [Addr.add]
   rw [e0] at h5
   rw [h5]; rfl
  rcases Nat.eq_zero_or_pos len with e0 | e0
  ·
   subst e0
   exact ⟨_, [], hcs, ⟨some x, _, rfl, hl, hm, (fun h => nomatch h), fun h => absurd rfl h⟩, fun x hx => by cases hx⟩
  let f : Nat → List Int := fun i => if hi : i < len then Classical.choose (Classical.choose_spec (each i hi)) else []
  have hf : ∀ i, i < len → ∃ u, w.cell? (x.add i) = some u ∧ IntSl w u (f i) ∧ ∀ y ∈ f i, (Lit.int .i64 y).wf = true := fun i hi => by
   refine ⟨Classical.choose (each i hi), ?_⟩
   have := Classical.choose_spec (Classical.choose_spec (each i hi))
   simp only [f, hi, dif_pos]
   exact this
  have hlen : ((List.range len).map f).length = len := by simp
  obtain ⟨b, off, spot⟩ := x
  have hs : spot = none := by
   obtain ⟨u, h1, -⟩ := hf 0 e0
   unfold Addr.add at h1
   cases spot with
   | none => rfl
   | some s =>
    unfold World.cell? at h1
    split at h1 <;> simp at h1
  subst hs
  refine ⟨_, (List.range len).map f, hcs, ⟨some ⟨b, off, none⟩, _, by rw [hlen], by rw [hlen]; exact hl, hm, (fun h => nomatch h), fun _ => ⟨b, off, rfl, ?_, fun i hi => ?_⟩⟩, fun r hr => ?_⟩
  ·
   obtain ⟨u, h1, -⟩ := hf 0 e0
   exact World.block_lt_of_cell? w _ h1
  ·
   rw [hlen] at hi
   obtain ⟨u, h1, h2, -⟩ := hf i hi
   rw [Addr.add_lit] at h1
   refine ⟨u, h1, ?_⟩
   rw [show ((List.range len).map f).getD i [] = f i by simp [List.getD, hi]]
   exact h2
  ·
   obtain ⟨i, hi, rfl⟩ := List.mem_map.1 hr
   obtain ⟨u, -, -, h3⟩ := hf i (List.mem_range.1 hi)
   exact h3
def wfI (i : Ins) : Prop := (Lit.int .i64 i.kind).wf = true ∧ (Lit.int .i64 i.n).wf = true ∧ (Lit.int .i64 i.cap).wf = true ∧ (∀ y ∈ i.wt, (Lit.int .i64 y).wf = true) ∧ (∀ y ∈ i.vl, (Lit.int .i64 y).wf = true) ∧ ∀ r ∈ i.cost, ∀ y ∈ r, (Lit.int .i64 y).wf = true
theorem open_ins {r : Reach} {b0 : Nat} {t tI tS tR : TypeId} {fs : Array Field} {v : Value} {d : DataW H} {p : List MemPlace} {held : Bool} (ht : P.underlying t = some (.struct fs)) (hcells : P.cellsOf t = 6) (hI : P.underlying tI = some (.int .i64)) (hcI : P.cellsOf tI = 1) (hS : P.underlying tS = some (.slice tI)) (hcS : P.cellsOf tS = 1) (hR : P.underlying tR = some (.slice tS)) (hcR : P.cellsOf tR = 1)
  (hf : ∃ f0 f1 f2 f3 f4 f5 : Field, fs = #[f0, f1, f2, f3, f4, f5] ∧ (f0.type = tI ∧ f1.type = tI ∧ f2.type = tI ∧ f3.type = tS ∧ f4.type = tS ∧ f5.type = tR) ∧ f0.offset = 0 ∧ f1.offset = 1 ∧ f2.offset = 2 ∧ f3.offset = 3 ∧ f4.offset = 4 ∧ f5.offset = 5)
  (hv : Value.okWide P w r b0 t v) (h : DataW.Trod enc P w 0 (fun _ => true) held t v d p) : ∃ i : Ins, InsV w v i ∧ wfI i := by
 simp only [Value.okWide, ht] at hv
 obtain ⟨cs, rfl, hsz, -⟩ := hv
 obtain ⟨fuel, hfu⟩ := h
 obtain ⟨f0, f1, f2, f3, f4, f5, rfl, ⟨t0, t1, t2, t3, t4, t5⟩, o0, o1, o2, o3, o4, o5⟩ := hf
 obtain ⟨xs, k, -, -, hlen, hxl, hfd⟩ := DataW.trod_struct ht hfu
 rw [hcells] at hlen hsz
 obtain ⟨c0, c1, c2, c3, c4, c5, rfl⟩ : ∃ c0 c1 c2 c3 c4 c5, cs = #[c0, c1, c2, c3, c4, c5] := by
  match cs, hsz with
  | ⟨[c0, c1, c2, c3, c4, c5]⟩, _ => exact ⟨c0, c1, c2, c3, c4, c5, rfl⟩
 have hx : ∀ j, j < 6 → ∃ y, xs[j]? = some y := fun j hj => ⟨xs[j]'(by rw [hxl]; exact hj), List.getElem?_eq_getElem _⟩
 have g : ∀ (j : Nat) (f : Field) (tt : TypeId) (c : Value), (#[f0, f1, f2, f3, f4, f5] : Array Field)[j]? = some f → j < 6 → f.type = tt → f.offset = j → P.cellsOf tt = 1 → (([c0, c1, c2, c3, c4, c5] : List Value).drop j).take 1 = [c] → ∃ y, DataW.trod enc P w 0 (fun _ => true) held k tt [c] = some y := by
  intro j f tt c h1 hj h2 h3 h4 h5
  have := hfd j f h1
  rw [h2, h3, h4] at this
  obtain ⟨y, hy⟩ := hx j hj
  refine ⟨y, ?_⟩
  rw [← hy, ← this, ← h5]
  rfl
 obtain ⟨y0, g0⟩ := g 0 f0 tI c0 rfl (by omega) t0 o0 hcI rfl
 obtain ⟨y1, g1⟩ := g 1 f1 tI c1 rfl (by omega) t1 o1 hcI rfl
 obtain ⟨y2, g2⟩ := g 2 f2 tI c2 rfl (by omega) t2 o2 hcI rfl
 obtain ⟨y3, g3⟩ := g 3 f3 tS c3 rfl (by omega) t3 o3 hcS rfl
 obtain ⟨y4, g4⟩ := g 4 f4 tS c4 rfl (by omega) t4 o4 hcS rfl
 obtain ⟨y5, g5⟩ := g 5 f5 tR c5 rfl (by omega) t5 o5 hcR rfl
 obtain ⟨n0, e0, -, w0⟩ := DataW.trod_int hI g0
 obtain ⟨n1, e1, -, w1⟩ := DataW.trod_int hI g1
 obtain ⟨n2, e2, -, w2⟩ := DataW.trod_int hI g2
 obtain ⟨u3, l3, e3, s3, w3⟩ := trod_ints hS hI hcI g3
 obtain ⟨u4, l4, e4, s4, w4⟩ := trod_ints hS hI hcI g4
 obtain ⟨u5, R, e5, s5, w5⟩ := trod_rows hR hS hcS hI hcI g5
 cases e0
 cases e1
 cases e2
 cases e3
 cases e4
 cases e5
 exact ⟨⟨n0, n1, n2, l3, l4, R⟩, ⟨_, _, _, rfl, s3, s4, s5⟩, w0, w1, w2, w3, w4, w5⟩
end
end Go.Proofs.Ytnikajkklocncaa
namespace Go.Proofs.Ytnikajkklocncaa
open Go.RowKit
theorem D.noC {P : Program} {a : Act} {w : World} {n : Nat} {l : List (Nat × Value)} {Q : Exit → Act → World → Prop} {S : World → Prop} {os : List Oper} {is : Ordt} {i last : Nat} {b0 : Bool}
    {d j dj : Nat} {b u : Bool} {op : Op} {ty : TypeId} {pos : String} {aft : Array Edge} (hA : St n l a) (ho : ith os i = some { dst := some d, op, type := ty, pos, after := aft, guard := some (j, b) })
    (hj : dstOf os.toArray j = some dj) (hl : lk l dj = some (.bool u)) (hu : (u == b) = false) (hS : S w)
    (hd : Nat.blt d n = true) (h : ∀ a, St n ((d, undef) :: l) a → wpOrd P last os Q S b0 is a w) : wpOrd P last os Q S b0 (.cons (i, false) is) a w := by
  have ho' : os.toArray[i]? = some { dst := some d, op, type := ty, pos, after := aft, guard := some (j, b) } := by rw [List.getElem?_toArray, ← ith_eq, ho]
  have hw : Region.wanted { dst := some d, op, type := ty, pos, after := aft, guard := some (j, b) } (yielded os.toArray a.tmps) = false := by rw [wanted_of hA rfl hj hl, hu]
  show wpOp _ _ _ _ _ _ _
  unfold wpOp
  simp only [ho', hw]
  exact ⟨fun _ _ => hS, wpOrd_or _ (h _ (hA.put hd undef))⟩
theorem D.appendI {P : Program} {a : Act} {w w0 : World} {nn : Nat} {l : List (Nat × Value)} {Q : Exit → Act → World → Prop} {F : Nat → Prop} {L : List Ck} {S : World → Prop} {os : List Oper} {is : Ordt} {i last : Nat} {b0 : Bool} {d : Nat} {t e ty : TypeId} {x y : Operand} {pos : String} {aft : Array Edge}
    {k n bytes cap : Nat} {v z : Value} {xs : List Value} {X : List Int} {ad : Option Addr} {j : TypeInfo} (hA : St nn l a) (hM : Mem w0 F L w) (ho : ith os i = some { dst := some d, op := .call { callee := .builtin .append, args := #[x, y], argTypes := #[t, t] }, type := ty, pos, after := aft, guard := none })
    (hk : ith L k = some (own e 1 v n xs)) (hX : IntSl w (.slice ad X.length cap) X) (hpos : 0 < X.length) (ht : P.underlying t = some (.slice e)) (hi : P.info? e = some j) (hz : j.zero = some z) (hsz : j.size = 1) (hby : j.bytes = bytes) (hzs : z.cells.size = 1)
    (hx : opv l x = some v) (hy : opv l y = some (.slice ad X.length cap)) (hmax : n + X.length ≤ maxLen) (hbs : (n + X.length) * bytes ≤ 140737488355328) (hd : Nat.blt d nn = true)
    (h : ∀ a' cap' w', Mem w0 F (setAt L k (own e 1 (.slice a' (n + X.length) cap') (n + X.length) (xs ++ X.map (Value.int .i64)))) w' → S w' ∧ ∀ a, St nn ((d, .slice a' (n + X.length) cap') :: l) a → wpOrd P last os Q S b0 is a w') : wpOrd P last os Q S b0 (.cons (i, false) is) a w := by
  obtain ⟨ad', cap', he, hle, hmx, hnn, hc⟩ := hX
  injection he with he1 he2 he3
  subst he1 he3
  cases ad with
  | none => exact absurd (hnn rfl) (by omega)
  | some p =>
    refine D.appendG hA hM ho hk ht hi hz hsz hby hzs (by decide) hx hy (by simp) (fun j u hu => ?_) (allOne_ints X) hmax hbs hd h
    obtain ⟨hj, rfl⟩ := mapi_take X j u hu
    obtain ⟨b, off, hb, hlt, hcell⟩ := hc (by intro e0; rw [e0] at hj; simp at hj)
    cases hb
    rw [Addr.add_lit]; exact hcell j hj
end Go.Proofs.Ytnikajkklocncaa
namespace Go.Proofs.Ytnikajkklocncaa
open Go.RowKit
theorem val_1 {i : Ins} {x : List Int} (h : (costI i x).2 = 0) : valI i x = (ofI i (costI i x).1, 0) := by unfold valI; rw [if_neg (not_not_intro h)]
theorem val_0 {i : Ins} {x : List Int} (h : ¬ (costI i x).2 = 0) : valI i x = (0, (costI i x).2) := by unfold valI; rw [if_pos h]
theorem val_2 (i : Ins) (x : List Int) : (valI i x).2 = (costI i x).2 := by
  by_cases h : (costI i x).2 = 0
  · rw [val_1 h, h]
  · rw [val_0 h]
theorem rows3 {w : World} {b b0 b1 b2 : Nat} {R0 R1 R2 : List Int} {t : TypeId} (hb : w.heap[b]? = some (.cells #[.slice (some ⟨b0, 0, none⟩) 3 3, .slice (some ⟨b1, 0, none⟩) 3 3, .slice (some ⟨b2, 0, none⟩) 3 3] t (0, 0)))
    (h0 : IntSl w (.slice (some ⟨b0, 0, none⟩) 3 3) R0) (h1 : IntSl w (.slice (some ⟨b1, 0, none⟩) 3 3) R1) (h2 : IntSl w (.slice (some ⟨b2, 0, none⟩) 3 3) R2) : RowsV w (.slice (some ⟨b, 0, none⟩) 3 3) [R0, R1, R2] := by
  refine ⟨some ⟨b, 0, none⟩, 3, rfl, by simp, by unfold maxLen; omega, (fun h => nomatch h), fun _ => ⟨b, 0, rfl, lt_of_block hb, fun i hi => ?_⟩⟩
  rw [Nat.zero_add]
  match i, hi with
  | 0, _ => exact ⟨_, by simp [World.cell?, hb], h0⟩
  | 1, _ => exact ⟨_, by simp [World.cell?, hb], h1⟩
  | 2, _ => exact ⟨_, by simp [World.cell?, hb], h2⟩
  | i + 3, h => exact absurd h (by simp)
def iV : Ins := ⟨3, 3, 0, [], [], [[0, 1, 2], [3, 0, 4], [5, 6, 0]]⟩
theorem chk_v : chk iV = 0 := by
  have hs : shapeOK iV := .inr ⟨by decide, rfl, rfl, rfl, rfl, fun r hr => by
    match r, hr with
    | 0, _ => rfl
    | 1, _ => rfl
    | 2, _ => rfl
    | r + 3, h => exact absurd h (by show ¬ r + 3 < 3; omega)⟩
  unfold chk
  rw [if_neg (not_not_intro (show sizeE iV = 0 by decide)), if_pos hs]
  first | rfl | decide
theorem cost_v : costI iV [0, 2, 1] = (11, 0) := by
  rw [costI_or chk_v (by decide), if_neg (not_not_intro (show ordP iV [0, 2, 1] from ⟨by decide, fun _ => rfl⟩))]
  decide
theorem plain_v : plnI iV = [0, 1, 2] := by unfold plnI; rw [if_neg (not_not_intro chk_v), if_neg (by decide)]; rfl
theorem tot_v : totI iV = 12 := by unfold totI; rw [if_neg (not_not_intro chk_v)]; decide
theorem cost_vw (av3 : Option Addr) (cv3 : Nat) (av4 : Option Addr) (cv4 : Nat) (av5 : Option Addr) (cv5 : Nat) (ay : Option Addr) (cy : Nat) (w : World) (hv3 : IntSl w (.slice av3 iV.wt.length cv3) iV.wt) (hv4 : IntSl w (.slice av4 iV.vl.length cv4) iV.vl) (hv5 : RowsV w (.slice av5 iV.cost.length cv5) iV.cost) (hy : IntSl w (.slice ay ([0, 2, 1] : List Int).length cy) [0, 2, 1]) :
    Calls Try.prog 17 #[.agg #[.int .i64 iV.kind, .int .i64 iV.n, .int .i64 iV.cap, .slice av3 iV.wt.length cv3, .slice av4 iV.vl.length cv4, .slice av5 iV.cost.length cv5], .slice ay ([0, 2, 1] : List Int).length cy] w fun e w' => e = .returned (.tuple #[.int .i64 11, .int .i64 0]) ∧ Below w.heap.size w w' := by
  have h := cost08 iV av3 cv3 av4 cv4 av5 cv5 ay [0, 2, 1] cy ⟨by decide, by decide⟩ w hv3 hv4 hv5 hy
  rwa [cost_v] at h
theorem plain_vw (av3 : Option Addr) (cv3 : Nat) (av4 : Option Addr) (cv4 : Nat) (av5 : Option Addr) (cv5 : Nat) (w : World) (hv3 : IntSl w (.slice av3 iV.wt.length cv3) iV.wt) (hv4 : IntSl w (.slice av4 iV.vl.length cv4) iV.vl) (hv5 : RowsV w (.slice av5 iV.cost.length cv5) iV.cost) : Calls Try.prog 14 #[.agg #[.int .i64 iV.kind, .int .i64 iV.n, .int .i64 iV.cap, .slice av3 iV.wt.length cv3, .slice av4 iV.vl.length cv4, .slice av5 iV.cost.length cv5]] w (fun e w' => ∃ a c, e = .returned (.slice a (([0, 1, 2] : List Int)).length c) ∧ IntSl w' (.slice a (([0, 1, 2] : List Int)).length c) (([0, 1, 2] : List Int)) ∧ Below w.heap.size w w') := by
  have h := plain08 iV av3 cv3 av4 cv4 av5 cv5 ⟨by decide, by decide⟩ w hv3 hv4 hv5
  rwa [plain_v] at h
theorem tot_vw (av3 : Option Addr) (cv3 : Nat) (av4 : Option Addr) (cv4 : Nat) (av5 : Option Addr) (cv5 : Nat) (w : World) (hv3 : IntSl w (.slice av3 iV.wt.length cv3) iV.wt) (hv4 : IntSl w (.slice av4 iV.vl.length cv4) iV.vl) (hv5 : RowsV w (.slice av5 iV.cost.length cv5) iV.cost) : Calls Try.prog 18 #[.agg #[.int .i64 iV.kind, .int .i64 iV.n, .int .i64 iV.cap, .slice av3 iV.wt.length cv3, .slice av4 iV.vl.length cv4, .slice av5 iV.cost.length cv5]] w (fun e w' => e = .returned (.int .i64 12) ∧ Below w.heap.size w w') := by
  have h := tot08 iV av3 cv3 av4 cv4 av5 cv5 ⟨by decide, by decide⟩ w hv3 hv4 hv5
  rwa [tot_v] at h
set_option maxRecDepth 100000 in
set_option maxHeartbeats 400000 in
theorem values_any  (w : World) :
  Calls Try.prog 16 #[] w fun e w' => e = .returned (.bool true) ∧ Below w.heap.size w w' := by
 have hbs := Below.refl (B := w.heap.size) w
 have hM := Mem.start w
 refine Calls.of_ends (vs := []) Try.func16 rfl Try.ntmps16 rfl ?_
 intro a hA
 replace hA : St 40 [] a := hA
 refine Ends.seq (Ends.region ?_)
 refine S.val hA (R.assign rfl) rfl ?_; clear hA a; intro a hA
 refine S.done ?_
 refine Ends.seq (Ends.region ?_)
 refine S.buildSl (cells := #[.int .i64 0, .int .i64 1, .int .i64 2]) hA hM Try.underlying22 info3 rfl rfl rfl rfl (by kernel_rfl) rfl ?_; clear hA hM a; intro b1 w1 hb2 hM a hA
 replace hM : Mem _ _ [pt b1 #[.int .i64 0, .int .i64 1, .int .i64 2] 3] _ := hM
 refine S.buildSl (cells := #[.int .i64 3, .int .i64 0, .int .i64 4]) hA hM Try.underlying22 info3 rfl rfl rfl rfl (by kernel_rfl) rfl ?_; clear hA hM a; intro b3 w2 hb4 hM a hA
 replace hM : Mem _ _ [pt b3 #[.int .i64 3, .int .i64 0, .int .i64 4] 3, pt b1 #[.int .i64 0, .int .i64 1, .int .i64 2] 3] _ := hM
 refine S.buildSl (cells := #[.int .i64 5, .int .i64 6, .int .i64 0]) hA hM Try.underlying22 info3 rfl rfl rfl rfl (by kernel_rfl) rfl ?_; clear hA hM a; intro b5 w3 hb6 hM a hA
 replace hM : Mem _ _ [pt b5 #[.int .i64 5, .int .i64 6, .int .i64 0] 3, pt b3 #[.int .i64 3, .int .i64 0, .int .i64 4] 3, pt b1 #[.int .i64 0, .int .i64 1, .int .i64 2] 3] _ := hM
 refine S.buildSl (cells := #[.slice (some ⟨b1, 0, none⟩) 3 3, .slice (some ⟨b3, 0, none⟩) 3 3, .slice (some ⟨b5, 0, none⟩) 3 3]) hA hM Try.underlying23 info22 rfl rfl rfl rfl (by kernel_rfl) rfl ?_; clear hA hM a; intro b7 w4 hb8 hM a hA
 replace hM : Mem _ _ [pt b7 #[.slice (some ⟨b1, 0, none⟩) 3 3, .slice (some ⟨b3, 0, none⟩) 3 3, .slice (some ⟨b5, 0, none⟩) 3 3] 22, pt b5 #[.int .i64 5, .int .i64 6, .int .i64 0] 3, pt b3 #[.int .i64 3, .int .i64 0, .int .i64 4] 3, pt b1 #[.int .i64 0, .int .i64 1, .int .i64 2] 3] _ := hM
 refine S.val hA (R.build (cells := #[.int .i64 3, .int .i64 3, .int .i64 0, .slice none 0 0, .slice none 0 0, .slice (some ⟨b7, 0, none⟩) 3 3]) rfl (by kernel_rfl)) rfl ?_; clear hA a; intro a hA
 refine S.alloc hA hM info25 rfl rfl ?_; clear hA hM a; intro b9 w5 hb10 hM a hA
 replace hM : Mem _ _ [pt b9 cz0 25, pt b7 #[.slice (some ⟨b1, 0, none⟩) 3 3, .slice (some ⟨b3, 0, none⟩) 3 3, .slice (some ⟨b5, 0, none⟩) 3 3] 22, pt b5 #[.int .i64 5, .int .i64 6, .int .i64 0] 3, pt b3 #[.int .i64 3, .int .i64 0, .int .i64 4] 3, pt b1 #[.int .i64 0, .int .i64 1, .int .i64 2] 3] _ := hM
 refine S.storeA (k := 0) hA hM sz25 rfl rfl rfl rfl rfl rfl ?_; clear hM
 intro w6 hM
 replace hM : Mem _ _ [pt b9 #[.int .i64 3, .int .i64 3, .int .i64 0, .slice none 0 0, .slice none 0 0, .slice (some ⟨b7, 0, none⟩) 3 3] 25, pt b7 #[.slice (some ⟨b1, 0, none⟩) 3 3, .slice (some ⟨b3, 0, none⟩) 3 3, .slice (some ⟨b5, 0, none⟩) 3 3] 22, pt b5 #[.int .i64 5, .int .i64 6, .int .i64 0] 3, pt b3 #[.int .i64 3, .int .i64 0, .int .i64 4] 3, pt b1 #[.int .i64 0, .int .i64 1, .int .i64 2] 3] _ := hM
 refine S.done ?_
 have q0 := hM.ptRs (k := 4) (X := ([0, 1, 2] : List Int)) rfl (by decide)
 have q1 := hM.ptRs (k := 3) (X := ([3, 0, 4] : List Int)) rfl (by decide)
 have q2 := hM.ptRs (k := 2) (X := ([5, 6, 0] : List Int)) rfl (by decide)
 have hv5 := rows3 (hM.block (k := 1) rfl) q0 q1 q2
 have hv3 := IntSl.nil w6
 have hv4 := IntSl.nil w6
 replace hM : Mem _ _ [pt b9 #[.int .i64 iV.kind, .int .i64 iV.n, .int .i64 iV.cap, .slice none iV.wt.length 0, .slice none iV.vl.length 0, .slice ((some ⟨b7, 0, none⟩)) iV.cost.length 3] 25, pt b7 #[.slice (some ⟨b1, 0, none⟩) 3 3, .slice (some ⟨b3, 0, none⟩) 3 3, .slice (some ⟨b5, 0, none⟩) 3 3] 22, pt b5 #[.int .i64 5, .int .i64 6, .int .i64 0] 3, pt b3 #[.int .i64 3, .int .i64 0, .int .i64 4] 3, pt b1 #[.int .i64 0, .int .i64 1, .int .i64 2] 3] _ := hM
 replace hM := hM.drop 4
 replace hM := hM.drop 3
 replace hM := hM.drop 2
 replace hM := hM.drop 1
 replace hM : Mem _ _ [pt b9 #[.int .i64 iV.kind, .int .i64 iV.n, .int .i64 iV.cap, .slice none iV.wt.length 0, .slice none iV.vl.length 0, .slice ((some ⟨b7, 0, none⟩)) iV.cost.length 3] 25] _ := hM
 have hbx11 := hM.block (k := 0) rfl
 have hbs := hbs.trans (hM.below.mono hbs.size)
 replace hM := Mem.start w6
 refine Ends.seq (Ends.region ?_)
 refine S.val hA (R.loadA sz25 rfl (hM.oldRange hbx11) rfl) rfl ?_; clear hA a; intro a hA
 refine S.buildSl (cells := #[.int .i64 0, .int .i64 2, .int .i64 1]) hA hM Try.underlying22 info3 rfl rfl rfl rfl (by kernel_rfl) rfl ?_; clear hA hM a; intro b12 w7 hb13 hM a hA
 replace hM : Mem _ _ [pt b12 #[.int .i64 0, .int .i64 2, .int .i64 1] 3] _ := hM
 have hq8 := hM.ptRs (k := 0) (X := ([0, 2, 1] : List Int)) rfl (by decide)
 refine S.call hA (R.callF Try.func17 rfl rfl rfl) rfl (cost_vw none 0 none 0 ((some ⟨b7, 0, none⟩)) 3 (some ⟨b12, 0, none⟩) 3 _ (hv3.mem hM) (hv4.mem hM) (hv5.mem hM) hq8) ?_; clear hA a
 rintro e w8 ⟨rfl, hb⟩
 replace hM := hM.callB hb; clear hb
 refine ⟨.tuple #[.int .i64 11, .int .i64 0], rfl, fun a hA => ?_⟩
 refine S.val hA (R.move rfl) rfl ?_; clear hA a; intro a hA
 refine S.val hA (R.extract (v := .int .i64 11) rfl rfl) rfl ?_; clear hA a; intro a hA
 refine S.val hA (R.extract (v := .int .i64 0) rfl rfl) rfl ?_; clear hA a; intro a hA
 refine S.val hA (R.assign rfl) rfl ?_; clear hA a; intro a hA
 refine S.val hA (R.assign rfl) rfl ?_; clear hA a; intro a hA
 refine S.done ?_
 replace hA : St 40 [(1, _), (2, _), (3, _)] a := hA.sub ((.cons rfl (.cons rfl (.cons rfl .nil))))
 refine Ends.seq (Ends.region ?_)
 refine S.val hA (R.loadA sz25 rfl (hM.oldRange hbx11) rfl) rfl ?_; clear hA a; intro a hA
 refine S.call hA (R.callF Try.func14 rfl rfl rfl) rfl (plain_vw none 0 none 0 ((some ⟨b7, 0, none⟩)) 3 _ (hv3.mem hM) (hv4.mem hM) (hv5.mem hM)) ?_; clear hA a
 rintro e w9 ⟨ra14, rc15, rfl, rh16, hb⟩
 replace hM := hM.callB hb; clear hb
 have hbx17 := hM.block (k := 0) rfl
 have hbs := hbs.trans (hM.below.mono hbs.size)
 have hv3 := hv3.mem hM
 have hv4 := hv4.mem hM
 have hv5 := hv5.mem hM
 have hbx11 := hM.keepB hbx11
 replace hM := Mem.start w9
 refine ⟨.slice ra14 ((([0, 1, 2] : List Int)).length) rc15, rfl, fun a hA => ?_⟩
 refine S.val hA (R.assign rfl) rfl ?_; clear hA a; intro a hA
 refine S.done ?_
 refine Ends.seq (Ends.region ?_)
 refine S.val hA (R.move rfl) rfl ?_; clear hA a; intro a hA
 refine S.val hA (R.tt (R.eql rfl rfl) (by first | decide | simp | omega)) rfl ?_; clear hA a; intro a hA
 refine S.val hA (R.move rfl) rfl ?_; clear hA a; intro a hA
 refine S.valg (dj := 20) hA (by kernel_rfl) rfl (R.move rfl) rfl ?_; clear hA a; intro a hA
 refine S.valg (dj := 20) hA (by kernel_rfl) rfl (R.tt (R.eql rfl rfl) (by first | decide | simp | omega)) rfl ?_; clear hA a; intro a hA
 refine S.val hA (R.pickT rfl rfl) rfl ?_; clear hA a; intro a hA
 refine S.val hA (R.move rfl) rfl ?_; clear hA a; intro a hA
 refine S.valg (dj := 24) hA (by kernel_rfl) rfl (R.move rfl) rfl ?_; clear hA a; intro a hA
 refine S.valg (dj := 24) hA (by kernel_rfl) rfl (R.lenS Try.underlying22 rfl rfl) rfl ?_; clear hA a; intro a hA
 refine S.valg (dj := 24) hA (by kernel_rfl) rfl (R.tt (R.eql rfl rfl) (by rfl)) rfl ?_; clear hA a; intro a hA
 refine S.val hA (R.pickT rfl rfl) rfl ?_; clear hA a; intro a hA
 refine S.val hA (R.move rfl) rfl ?_; clear hA a; intro a hA
 refine S.valg (dj := 29) hA (by kernel_rfl) rfl (R.move rfl) rfl ?_; clear hA a; intro a hA
 refine S.valg (dj := 29) hA (by kernel_rfl) rfl (R.idxI rh16 (j := 2) sl22 rfl rfl (by first | omega | decide) (rfl)) rfl ?_; clear hA a; intro a hA
 refine S.valg (dj := 29) hA (by kernel_rfl) rfl (R.loadI (rh16.mem hM) sz3 rfl (by first | omega | decide)) rfl ?_; clear hA a; intro a hA
 refine S.valg (dj := 29) hA (by kernel_rfl) rfl (R.tt (R.eql rfl rfl) (by rfl)) rfl ?_; clear hA a; intro a hA
 refine S.val hA (R.pickT rfl rfl) rfl ?_; clear hA a; intro a hA
 refine S.val hA (R.move rfl) rfl ?_; clear hA a; intro a hA
 refine S.valg (dj := 35) hA (by kernel_rfl) rfl (R.loadA sz25 rfl (hM.oldRange hbx11) rfl) rfl ?_; clear hA a; intro a hA
 refine S.callg (dj := 35) hA (by kernel_rfl) rfl (R.callF Try.func18 rfl rfl rfl) rfl (tot_vw none 0 none 0 ((some ⟨b7, 0, none⟩)) 3 _ (hv3.mem hM) (hv4.mem hM) (hv5.mem hM)) ?_; clear hA a
 rintro e w10 ⟨rfl, hb⟩
 replace hM := hM.callB hb; clear hb
 refine ⟨.int .i64 12, rfl, fun a hA => ?_⟩
 refine S.valg (dj := 35) hA (by kernel_rfl) rfl (R.tt (R.eql rfl rfl) (by first | decide | simp | omega)) rfl ?_; clear hA a; intro a hA
 refine S.val hA (R.pickT rfl rfl) rfl ?_; clear hA a; intro a hA
 refine S.val hA (R.assign rfl) rfl ?_; clear hA a; intro a hA
 refine S.done ?_
 replace hA : St 40 [(0, _)] a := hA.sub ((.cons rfl .nil))
 refine Ends.ret1 Try.func16 Try.results16 hA rfl ?_
 exact ⟨rfl, Mem.trans0 hbs hM.nilL⟩
set_option maxRecDepth 100000 in
set_option maxHeartbeats 400000 in
theorem valueCosts_w (i : Ins) (ax3 : Option Addr) (cx3 : Nat) (ax4 : Option Addr) (cx4 : Nat) (ax5 : Option Addr) (cx5 : Nat) (ay : Option Addr) (x : List Int) (cy : Nat) (w : World) (hx3 : IntSl w (.slice ax3 i.wt.length cx3) i.wt) (hx4 : IntSl w (.slice ax4 i.vl.length cx4) i.vl) (hx5 : RowsV w (.slice ax5 i.cost.length cx5) i.cost) (hy : IntSl w (.slice ay x.length cy) x) :
  Calls Try.prog 5 #[.agg #[.int .i64 i.kind, .int .i64 i.n, .int .i64 i.cap, .slice ax3 i.wt.length cx3, .slice ax4 i.vl.length cx4, .slice ax5 i.cost.length cx5], .slice ay x.length cy] w fun e w' => e = .returned (.bool true) ∧ Below w.heap.size w w' := by
 have hbs := Below.refl (B := w.heap.size) w
 have hM := Mem.start w
 refine Calls.of_ends (vs := [.agg #[.int .i64 i.kind, .int .i64 i.n, .int .i64 i.cap, .slice ax3 i.wt.length cx3, .slice ax4 i.vl.length cx4, .slice ax5 i.cost.length cx5], .slice ay x.length cy]) Try.func5 rfl Try.ntmps5 rfl ?_
 intro a hA
 replace hA : St 83 [(0, _), (1, _)] a := hA
 refine Ends.seq (Ends.region ?_)
 refine S.box hA hM rfl rfl ?_; clear hA hM a; intro b1 w1 hb2 hM a hA
 replace hM : Mem _ _ [pt b1 #[.int .i64 i.kind, .int .i64 i.n, .int .i64 i.cap, .slice ax3 i.wt.length cx3, .slice ax4 i.vl.length cx4, .slice ax5 i.cost.length cx5] 25] _ := hM
 refine S.val hA (R.assign rfl) rfl ?_; clear hA a; intro a hA
 refine S.done ?_
 refine Ends.seq (Ends.region ?_)
 refine S.val hA (R.loadA sz25 rfl (hM.range (k := 0) rfl) rfl) rfl ?_; clear hA a; intro a hA
 obtain ⟨G, hGy⟩ : ∃ G, G = cutI i := ⟨_, rfl⟩
 have hsmy : smallI G := by rw [hGy]; exact cutI_small _
 have hscy := cutI_of_small hsmy
 have hsy1 := hsmy.1
 have hsy2 := hsmy.2.1
 have hsy3 := hsmy.2.2.1
 refine S.call hA (R.callF Try.func13 rfl rfl rfl) rfl (copyG i ax3 cx3 ax4 cx4 ax5 cx5 G hGy _ (hx3.mem hM) (hx4.mem hM) (hx5.mem hM)) ?_; clear hA a
 rintro e w2 ⟨ay3, cy3, ay4, cy4, ay5, cy5, rsy, rfl, hYy, hn⟩
 replace hM : Mem _ _ [bundle (insL 3 22 G ay3 cy3 ay4 cy4 ay5 cy5 rsy), pt b1 #[.int .i64 i.kind, .int .i64 i.n, .int .i64 i.cap, .slice ax3 i.wt.length cx3, .slice ax4 i.vl.length cx4, .slice ax5 i.cost.length cx5] 25] _ := hM.call hn; clear hn
 refine ⟨.agg #[.int .i64 G.kind, .int .i64 G.n, .int .i64 G.cap, .slice ay3 G.wt.length cy3, .slice ay4 G.vl.length cy4, .slice ay5 rsy.length cy5], rfl, fun a hA => ?_⟩
 refine S.storeA (k := 1) hA hM sz25 rfl rfl rfl rfl rfl rfl ?_; clear hM
 intro w3 hM
 replace hM : Mem _ _ [bundle (insL 3 22 G ay3 cy3 ay4 cy4 ay5 cy5 rsy), pt b1 #[.int .i64 G.kind, .int .i64 G.n, .int .i64 G.cap, .slice ay3 G.wt.length cy3, .slice ay4 G.vl.length cy4, .slice ay5 rsy.length cy5] 25] _ := hM
 refine S.done ?_
 replace hA : St 83 [(1, _), (2, _)] a := hA.sub ((.cons rfl (.cons rfl .nil)))
 refine Ends.seq ?_
 obtain ⟨-, hy3, hy4, hy5⟩ := insR_of hM (k := 0) rfl hYy
 have hlcy : rsy.length = G.cost.length := by rw [← hYy, List.length_map]
 replace hM := hM.drop 0
 rw [hlcy] at hM
 replace hM : Mem _ _ [pt b1 #[.int .i64 G.kind, .int .i64 G.n, .int .i64 G.cap, .slice ay3 G.wt.length cy3, .slice ay4 G.vl.length cy4, .slice ay5 G.cost.length cy5] 25] _ := hM
 have hbx3 := hM.block (k := 0) rfl
 have hbs := hbs.trans (hM.below.mono hbs.size)
 have hx3 := hx3.mem hM
 have hx4 := hx4.mem hM
 have hx5 := hx5.mem hM
 have hy := hy.mem hM
 replace hM := Mem.start w3
 refine Ends.region ?_
 refine S.buildSl0 hA hM Try.underlying22 info3 rfl ?_; clear hA hM a; intro b4 w4 hb5 hM a hA
 replace hM := hM.ownPt (cap := 0) (n := 0) (sz := 1) (xs := []) rfl (Nat.zero_le _) (Nat.le_refl _) rfl
 replace hM : Mem _ _ [own 3 1 (.slice ((some ⟨b4, 0, none⟩)) 0 0) 0 ((([] : List Int)).map (Value.int .i64))] _ := hM
 refine S.val hA (R.move rfl) rfl ?_; clear hA a; intro a hA
 refine S.val hA (R.move rfl) rfl ?_; clear hA a; intro a hA
 refine S.val hA (R.lenS Try.underlying22 rfl rfl) rfl ?_; clear hA a; intro a hA
 refine S.val hA (R.min rfl rfl) rfl ?_; clear hA a; intro a hA
 have hsl6 := hy.cutR ((min ((x.length : Int)) 70).toNat) (by omega)
 refine S.val hA (R.sliceHI (h := (min ((x.length : Int)) 70).toNat) hy Try.underlying22 info3 rfl rfl (by omega) (by omega)) rfl ?_; clear hA a; intro a hA
 refine S.appendI (k := 0) hA hM rfl (hsl6.mem hM) Try.underlying22 info3 rfl rfl rfl rfl rfl rfl (by first | (rw [take_min70, List.length_take]; unfold maxLen; omega) | (rw [take_min70, List.length_take]; show (0 + _) * 8 ≤ (140737488355328 : Nat); omega) | omega | (unfold maxLen; omega)) (by first | (rw [take_min70, List.length_take]; unfold maxLen; omega) | (rw [take_min70, List.length_take]; show (0 + _) * 8 ≤ (140737488355328 : Nat); omega) | omega | (unfold maxLen; omega)) rfl ?_; clear hA hM a; intro a7 c8 w5 hM a hA
 have hl9 : 0 + ((x.take ((min ((x.length : Int)) 70).toNat))).length = (((x.take ((min ((x.length : Int)) 70).toNat)))).length := by first | (simp; done) | simp only [List.length_append]
 rw [hl9, show (([] : List Int)).map (Value.int .i64) ++ ((x.take ((min ((x.length : Int)) 70).toNat))).map (Value.int .i64) = (((x.take ((min ((x.length : Int)) 70).toNat)))).map (Value.int .i64) by simp] at hM; rw [hl9] at hA; clear hl9
 replace hM : Mem _ _ [own 3 1 (.slice a7 ((((x.take ((min ((x.length : Int)) 70).toNat)))).length) c8) ((((x.take ((min ((x.length : Int)) 70).toNat)))).length) ((((x.take ((min ((x.length : Int)) 70).toNat)))).map (Value.int .i64))] _ := hM
 refine S.val hA (R.assign rfl) rfl ?_; clear hA a; intro a hA
 refine S.done ?_
 obtain ⟨Y, hY⟩ : ∃ Y, Y = x.take 70 := ⟨_, rfl⟩
 rw [take_min70, ← hY] at hM hA
 replace hM : Mem _ _ [own 3 1 (.slice a7 Y.length c8) Y.length (Y.map (Value.int .i64))] _ := hM
 have hbx10 := hM.rsl (k := 0) rfl
 have hbs := hbs.trans (hM.below.mono hbs.size)
 have hx3 := hx3.mem hM
 have hx4 := hx4.mem hM
 have hx5 := hx5.mem hM
 have hy := hy.mem hM
 have hy3 := hy3.mem hM
 have hy4 := hy4.mem hM
 have hy5 := hy5.mem hM
 have hsl6 := hsl6.mem hM
 have hbx3 := hM.keepB hbx3
 replace hM := Mem.start w5
 have hcb := cost_bd G Y
 have hcl := (by rw [hY, List.length_take]; omega : Y.length ≤ 70)
 replace hA : St 83 [(1, _), (2, _)] a := hA.sub ((.cons rfl (.cons rfl .nil)))
 refine Ends.seq (Ends.region ?_)
 refine S.val hA (R.loadA sz25 rfl (hM.oldRange hbx3) rfl) rfl ?_; clear hA a; intro a hA
 refine S.val hA (R.move rfl) rfl ?_; clear hA a; intro a hA
 refine S.call hA (R.callF Try.func17 rfl rfl rfl) rfl (cost08 G ay3 cy3 ay4 cy4 ay5 cy5 a7 Y c8 ⟨by omega, by omega⟩ _ (hy3.mem hM) (hy4.mem hM) (hy5.mem hM) (hbx10.mem hM)) ?_; clear hA a
 rintro e w6 ⟨rfl, hb⟩
 replace hM := hM.callB hb; clear hb
 refine ⟨.tuple #[.int .i64 ((costI G Y).1), .int .i64 ((costI G Y).2)], rfl, fun a hA => ?_⟩
 refine S.val hA (R.move rfl) rfl ?_; clear hA a; intro a hA
 refine S.val hA (R.extract (v := .int .i64 ((costI G Y).1)) rfl rfl) rfl ?_; clear hA a; intro a hA
 refine S.val hA (R.extract (v := .int .i64 ((costI G Y).2)) rfl rfl) rfl ?_; clear hA a; intro a hA
 refine S.val hA (R.assign rfl) rfl ?_; clear hA a; intro a hA
 refine S.val hA (R.assign rfl) rfl ?_; clear hA a; intro a hA
 refine S.done ?_
 replace hA : St 83 [(1, _), (2, _), (5, _), (6, _)] a := hA.sub ((.cons rfl (.cons rfl (.cons rfl (.cons rfl .nil)))))
 refine Ends.seq (Ends.region ?_)
 refine S.val hA (R.loadA sz25 rfl (hM.oldRange hbx3) rfl) rfl ?_; clear hA a; intro a hA
 refine S.val hA (R.move rfl) rfl ?_; clear hA a; intro a hA
 refine S.call hA (R.callF Try.func19 rfl rfl rfl) rfl (val08 G ay3 cy3 ay4 cy4 ay5 cy5 a7 Y c8 ⟨by omega, by omega⟩ _ (hy3.mem hM) (hy4.mem hM) (hy5.mem hM) (hbx10.mem hM)) ?_; clear hA a
 rintro e w7 ⟨rfl, hb⟩
 replace hM := hM.callB hb; clear hb
 refine ⟨.tuple #[.int .i64 ((valI G Y).1), .int .i64 ((valI G Y).2)], rfl, fun a hA => ?_⟩
 refine S.val hA (R.move rfl) rfl ?_; clear hA a; intro a hA
 refine S.val hA (R.extract (v := .int .i64 ((valI G Y).1)) rfl rfl) rfl ?_; clear hA a; intro a hA
 refine S.val hA (R.extract (v := .int .i64 ((valI G Y).2)) rfl rfl) rfl ?_; clear hA a; intro a hA
 refine S.val hA (R.assign rfl) rfl ?_; clear hA a; intro a hA
 refine S.val hA (R.assign rfl) rfl ?_; clear hA a; intro a hA
 refine S.done ?_
 replace hA : St 83 [(1, _), (2, _), (5, _), (6, _), (7, _), (8, _)] a := hA.sub ((.cons rfl (.cons rfl (.cons rfl (.cons rfl (.cons rfl (.cons rfl .nil)))))))
 refine Ends.seq (Ends.region ?_)
 refine S.val hA (R.loadA sz25 rfl (hM.oldRange hbx3) rfl) rfl ?_; clear hA a; intro a hA
 refine S.val hA (R.move rfl) rfl ?_; clear hA a; intro a hA
 refine S.call hA (R.callF Try.func20 rfl rfl rfl) rfl (rcost08 G ay3 cy3 ay4 cy4 ay5 cy5 a7 Y c8 _ (hy3.mem hM) (hy4.mem hM) (hy5.mem hM) (hbx10.mem hM)) ?_; clear hA a
 rintro e w8 ⟨rfl, hb⟩
 replace hM := hM.callB hb; clear hb
 refine ⟨.tuple #[.int .i64 ((costI G Y).1), .int .i64 ((costI G Y).2)], rfl, fun a hA => ?_⟩
 refine S.val hA (R.move rfl) rfl ?_; clear hA a; intro a hA
 refine S.val hA (R.extract (v := .int .i64 ((costI G Y).1)) rfl rfl) rfl ?_; clear hA a; intro a hA
 refine S.val hA (R.extract (v := .int .i64 ((costI G Y).2)) rfl rfl) rfl ?_; clear hA a; intro a hA
 refine S.val hA (R.assign rfl) rfl ?_; clear hA a; intro a hA
 refine S.val hA (R.assign rfl) rfl ?_; clear hA a; intro a hA
 refine S.done ?_
 replace hA : St 83 [(2, _), (5, _), (6, _), (7, _), (8, _), (9, _), (10, _)] a := hA.sub ((.cons rfl (.cons rfl (.cons rfl (.cons rfl (.cons rfl (.cons rfl (.cons rfl .nil))))))))
 refine Ends.seq (Ends.region ?_)
 refine S.val hA (R.assign rfl) rfl ?_; clear hA a; intro a hA
 refine S.done ?_
 refine Ends.seq (Ends.seq (Ends.region ?_))
 refine S.val hA (R.move rfl) rfl ?_; clear hA a; intro a hA
 refine S.val hA (R.eql rfl rfl) rfl ?_; clear hA a; intro a hA
 refine S.done ?_
 refine Ends.ite hA rfl (fun hc11 => ?_) (fun hc11 => ?_)
 ·
  have hz0 : (costI G Y).2 = 0 := hc11
  have hzz := costI_chk hz0
  have hF := chk_inF hzz
  have hv1 := val_1 hz0
  have hv2 : (valI G Y).1 = ofI G (costI G Y).1 := by rw [hv1]
  have hv3 : (valI G Y).2 = (costI G Y).2 := val_2 G Y
  refine Ends.region ?_
  refine S.val hA (R.loadA sz25 rfl (hM.oldRange hbx3) rfl) rfl ?_; clear hA a; intro a hA
  refine S.val hA (R.move rfl) rfl ?_; clear hA a; intro a hA
  refine S.call hA (R.callF Try.func21 rfl rfl rfl) rfl (rof08 G ay3 cy3 ay4 cy4 ay5 cy5 ((costI G Y).1) hzz (by omega) _ (hy3.mem hM) (hy4.mem hM) (hy5.mem hM)) ?_; clear hA a
  rintro e w9 ⟨rfl, hb⟩
  replace hM := hM.callB hb; clear hb
  refine ⟨.int .i64 (ofI G ((costI G Y).1)), rfl, fun a hA => ?_⟩
  refine S.val hA (R.assign rfl) rfl ?_; clear hA a; intro a hA
  refine S.done ?_
  replace hA : St 83 [(2, _), (5, _), (6, _), (7, _), (8, _), (9, _), (10, _), (11, _)] a := hA.sub ((.cons rfl (.cons rfl (.cons rfl (.cons rfl (.cons rfl (.cons rfl (.cons rfl (.cons rfl .nil)))))))))
  refine Ends.seq ?_
  refine Ends.drawn (Mem w5 nof []) (.cons (0, false) (.cons (1, true) (.cons (2, true) (.cons (3, true) (.cons (4, true) (.cons (5, true) (.cons (6, true) (.cons (7, true) (.cons (8, true) (.cons (9, true) (.cons (10, true) (.cons (11, true) (.cons (12, true) (.cons (13, true) (.cons (14, true) (.cons (15, true) (.cons (16, true) (.cons (17, true) (.cons (18, true) (.cons (19, true) (.cons (20, true) (.cons (21, true) (.cons (22, true) (.cons (24, true) (.cons (23, false) (.cons (25, false) (.cons (26, true) (.cons (27, true) (.cons (28, true) (.cons (29, true) (.cons (30, true) (.cons (31, true) (.cons (32, true) (.cons (33, true) (.cons (35, true) (.cons (34, false) (.cons (36, true) (.cons (37, true) (.cons (38, true) (.cons (39, true) .nil)))))))))))))))))))))))))))))))))))))))) 40 mixed (by kernel_rfl) (by kernel_rfl) (by kernel_rfl) hM.drew ?_
  replace hM := hM.drew
  refine D.call hA rfl (R.callF Try.func16 rfl rfl rfl) rfl (values_any _) ?_; clear hA a
  rintro e w10 ⟨rfl, hb⟩
  replace hM := hM.callB hb; clear hb
  refine ⟨.bool true, rfl, hM, fun a hA => ?_⟩
  refine D.valF hA rfl (fun _ => R.move rfl) rfl ?_; clear hA a; intro a hA
  refine D.valgF (dj := 45) hA rfl (by kernel_rfl) rfl (fun _ => R.move rfl) rfl ?_; clear hA a; intro a hA
  refine D.valgF (dj := 45) hA rfl (by kernel_rfl) rfl (fun _ => R.move rfl) rfl ?_; clear hA a; intro a hA
  refine D.valgF (dj := 45) hA rfl (by kernel_rfl) rfl (fun _ => R.tt (R.eql rfl rfl) (by rfl)) rfl ?_; clear hA a; intro a hA
  refine D.valF hA rfl (fun _ => R.pickT rfl rfl) rfl ?_; clear hA a; intro a hA
  refine D.valF hA rfl (fun _ => R.move rfl) rfl ?_; clear hA a; intro a hA
  refine D.valgF (dj := 50) hA rfl (by kernel_rfl) rfl (fun _ => R.move rfl) rfl ?_; clear hA a; intro a hA
  refine D.valgF (dj := 50) hA rfl (by kernel_rfl) rfl (fun _ => R.move rfl) rfl ?_; clear hA a; intro a hA
  refine D.valgF (dj := 50) hA rfl (by kernel_rfl) rfl (fun _ => R.tt (R.eql rfl rfl) (by rfl)) rfl ?_; clear hA a; intro a hA
  refine D.valF hA rfl (fun _ => R.pickT rfl rfl) rfl ?_; clear hA a; intro a hA
  refine D.valF hA rfl (fun _ => R.move rfl) rfl ?_; clear hA a; intro a hA
  refine D.valgF (dj := 55) hA rfl (by kernel_rfl) rfl (fun _ => R.move rfl) rfl ?_; clear hA a; intro a hA
  refine D.valgF (dj := 55) hA rfl (by kernel_rfl) rfl (fun _ => R.move rfl) rfl ?_; clear hA a; intro a hA
  refine D.valgF (dj := 55) hA rfl (by kernel_rfl) rfl (fun _ => R.tt (R.eql rfl rfl) (hv2)) rfl ?_; clear hA a; intro a hA
  refine D.valF hA rfl (fun _ => R.pickT rfl rfl) rfl ?_; clear hA a; intro a hA
  refine D.valF hA rfl (fun _ => R.move rfl) rfl ?_; clear hA a; intro a hA
  refine D.valgF (dj := 60) hA rfl (by kernel_rfl) rfl (fun _ => R.move rfl) rfl ?_; clear hA a; intro a hA
  refine D.valgF (dj := 60) hA rfl (by kernel_rfl) rfl (fun _ => R.move rfl) rfl ?_; clear hA a; intro a hA
  refine D.valgF (dj := 60) hA rfl (by kernel_rfl) rfl (fun _ => R.tt (R.eql rfl rfl) (hv3)) rfl ?_; clear hA a; intro a hA
  refine D.valF hA rfl (fun _ => R.pickT rfl rfl) rfl ?_; clear hA a; intro a hA
  refine D.valF hA rfl (fun _ => R.move rfl) rfl ?_; clear hA a; intro a hA
  refine D.valg (dj := 65) hA rfl (by kernel_rfl) (by kernel_rfl) rfl (fun _ hM => R.loadA sz25 rfl (hM.oldRange hbx3) rfl) rfl ?_; clear hA a; intro a hA
  refine D.valg (dj := 65) hA rfl (by kernel_rfl) (by kernel_rfl) rfl (fun _ hM => R.loadA sz25 rfl (hM.oldRange hbx3) rfl) rfl ?_; clear hA a; intro a hA
  refine D.callg (dj := 65) hA rfl (by kernel_rfl) rfl (R.callF Try.func18 rfl rfl rfl) rfl (tot08 G ay3 cy3 ay4 cy4 ay5 cy5 ⟨by omega, by omega⟩ _ (hy3.mem hM) (hy4.mem hM) (hy5.mem hM)) ?_; clear hA a
  rintro e w11 ⟨rfl, hb⟩
  replace hM := hM.callB hb; clear hb
  refine ⟨.int .i64 (totI G), rfl, hM, fun a hA => ?_⟩
  refine D.callg (dj := 65) hA rfl (by kernel_rfl) rfl (R.callF Try.func22 rfl rfl rfl) rfl (rtot08 G ay3 cy3 ay4 cy4 ay5 cy5 _ (hy3.mem hM) (hy4.mem hM) (hy5.mem hM)) ?_; clear hA a
  rintro e w12 ⟨rfl, hb⟩
  replace hM := hM.callB hb; clear hb
  refine ⟨.int .i64 (totI G), rfl, hM, fun a hA => ?_⟩
  refine D.valgF (dj := 65) hA rfl (by kernel_rfl) rfl (fun _ => R.tt (R.eql rfl rfl) (by rfl)) rfl ?_; clear hA a; intro a hA
  refine D.valF hA rfl (fun _ => R.pickT rfl rfl) rfl ?_; clear hA a; intro a hA
  refine D.valF hA rfl (fun _ => R.move rfl) rfl ?_; clear hA a; intro a hA
  refine D.valgF (dj := 72) hA rfl (by kernel_rfl) rfl (fun _ => R.move rfl) rfl ?_; clear hA a; intro a hA
  refine D.valgF (dj := 72) hA rfl (by kernel_rfl) rfl (fun _ => R.ff (R.neq rfl rfl) (not_not_intro hz0)) rfl ?_; clear hA a; intro a hA
  refine D.valgF (dj := 72) hA rfl (by kernel_rfl) rfl (fun _ => R.move rfl) rfl ?_; clear hA a; intro a hA
  refine D.valg (dj := 75) hA rfl (by kernel_rfl) (by kernel_rfl) rfl (fun _ hM => R.loadA sz25 rfl (hM.oldRange hbx3) rfl) rfl ?_; clear hA a; intro a hA
  refine D.valgF (dj := 75) hA rfl (by kernel_rfl) rfl (fun _ => R.move rfl) rfl ?_; clear hA a; intro a hA
  refine D.valgF (dj := 75) hA rfl (by kernel_rfl) rfl (fun _ => R.move rfl) rfl ?_; clear hA a; intro a hA
  refine D.callg (dj := 75) hA rfl (by kernel_rfl) rfl (R.callF Try.func23 rfl rfl rfl) rfl (of08 G ay3 cy3 ay4 cy4 ay5 cy5 ((costI G Y).1) hF (by omega) _ (hy3.mem hM) (hy4.mem hM) (hy5.mem hM)) ?_; clear hA a
  rintro e w13 ⟨rfl, hb⟩
  replace hM := hM.callB hb; clear hb
  refine ⟨.int .i64 (ofI G ((costI G Y).1)), rfl, hM, fun a hA => ?_⟩
  refine D.valgF (dj := 75) hA rfl (by kernel_rfl) rfl (fun _ => R.tt (R.eql rfl rfl) (by rfl)) rfl ?_; clear hA a; intro a hA
  refine D.valgF (dj := 72) hA rfl (by kernel_rfl) rfl (fun _ => R.pickF rfl rfl) rfl ?_; clear hA a; intro a hA
  refine D.valF hA rfl (fun _ => R.pickT rfl rfl) rfl ?_; clear hA a; intro a hA
  refine D.valF hA rfl (fun _ => R.assign rfl) rfl ?_; clear hA a; intro a hA
  refine D.done ?_
  replace hA : St 83 [(4, _)] a := hA.sub ((.cons rfl .nil))
  refine Ends.ret1 Try.func5 Try.results5 hA rfl ?_
  exact ⟨rfl, Mem.trans0 hbs hM.nilL⟩
 ·
  have hz0 : ¬ (costI G Y).2 = 0 := hc11
  have hv1 := val_0 hz0
  have hv2 : (valI G Y).1 = 0 := by rw [hv1]
  have hv3 : (valI G Y).2 = (costI G Y).2 := val_2 G Y
  refine Ends.skip (Ends.seq ?_)
  refine Ends.drawn (Mem w5 nof []) (.cons (0, false) (.cons (1, true) (.cons (2, true) (.cons (3, true) (.cons (4, true) (.cons (5, true) (.cons (6, true) (.cons (7, true) (.cons (8, true) (.cons (9, true) (.cons (10, true) (.cons (11, true) (.cons (12, true) (.cons (13, true) (.cons (14, true) (.cons (15, true) (.cons (16, true) (.cons (17, true) (.cons (18, true) (.cons (19, true) (.cons (20, true) (.cons (21, true) (.cons (22, true) (.cons (24, true) (.cons (23, false) (.cons (25, false) (.cons (26, true) (.cons (27, true) (.cons (28, true) (.cons (29, true) (.cons (30, true) (.cons (31, true) (.cons (32, true) (.cons (33, true) (.cons (35, true) (.cons (34, false) (.cons (36, true) (.cons (37, true) (.cons (38, true) (.cons (39, true) .nil)))))))))))))))))))))))))))))))))))))))) 40 mixed (by kernel_rfl) (by kernel_rfl) (by kernel_rfl) hM.drew ?_
  replace hM := hM.drew
  refine D.call hA rfl (R.callF Try.func16 rfl rfl rfl) rfl (values_any _) ?_; clear hA a
  rintro e w14 ⟨rfl, hb⟩
  replace hM := hM.callB hb; clear hb
  refine ⟨.bool true, rfl, hM, fun a hA => ?_⟩
  refine D.valF hA rfl (fun _ => R.move rfl) rfl ?_; clear hA a; intro a hA
  refine D.valgF (dj := 45) hA rfl (by kernel_rfl) rfl (fun _ => R.move rfl) rfl ?_; clear hA a; intro a hA
  refine D.valgF (dj := 45) hA rfl (by kernel_rfl) rfl (fun _ => R.move rfl) rfl ?_; clear hA a; intro a hA
  refine D.valgF (dj := 45) hA rfl (by kernel_rfl) rfl (fun _ => R.tt (R.eql rfl rfl) (by rfl)) rfl ?_; clear hA a; intro a hA
  refine D.valF hA rfl (fun _ => R.pickT rfl rfl) rfl ?_; clear hA a; intro a hA
  refine D.valF hA rfl (fun _ => R.move rfl) rfl ?_; clear hA a; intro a hA
  refine D.valgF (dj := 50) hA rfl (by kernel_rfl) rfl (fun _ => R.move rfl) rfl ?_; clear hA a; intro a hA
  refine D.valgF (dj := 50) hA rfl (by kernel_rfl) rfl (fun _ => R.move rfl) rfl ?_; clear hA a; intro a hA
  refine D.valgF (dj := 50) hA rfl (by kernel_rfl) rfl (fun _ => R.tt (R.eql rfl rfl) (by rfl)) rfl ?_; clear hA a; intro a hA
  refine D.valF hA rfl (fun _ => R.pickT rfl rfl) rfl ?_; clear hA a; intro a hA
  refine D.valF hA rfl (fun _ => R.move rfl) rfl ?_; clear hA a; intro a hA
  refine D.valgF (dj := 55) hA rfl (by kernel_rfl) rfl (fun _ => R.move rfl) rfl ?_; clear hA a; intro a hA
  refine D.valgF (dj := 55) hA rfl (by kernel_rfl) rfl (fun _ => R.move rfl) rfl ?_; clear hA a; intro a hA
  refine D.valgF (dj := 55) hA rfl (by kernel_rfl) rfl (fun _ => R.tt (R.eql rfl rfl) (hv2)) rfl ?_; clear hA a; intro a hA
  refine D.valF hA rfl (fun _ => R.pickT rfl rfl) rfl ?_; clear hA a; intro a hA
  refine D.valF hA rfl (fun _ => R.move rfl) rfl ?_; clear hA a; intro a hA
  refine D.valgF (dj := 60) hA rfl (by kernel_rfl) rfl (fun _ => R.move rfl) rfl ?_; clear hA a; intro a hA
  refine D.valgF (dj := 60) hA rfl (by kernel_rfl) rfl (fun _ => R.move rfl) rfl ?_; clear hA a; intro a hA
  refine D.valgF (dj := 60) hA rfl (by kernel_rfl) rfl (fun _ => R.tt (R.eql rfl rfl) (hv3)) rfl ?_; clear hA a; intro a hA
  refine D.valF hA rfl (fun _ => R.pickT rfl rfl) rfl ?_; clear hA a; intro a hA
  refine D.valF hA rfl (fun _ => R.move rfl) rfl ?_; clear hA a; intro a hA
  refine D.valg (dj := 65) hA rfl (by kernel_rfl) (by kernel_rfl) rfl (fun _ hM => R.loadA sz25 rfl (hM.oldRange hbx3) rfl) rfl ?_; clear hA a; intro a hA
  refine D.valg (dj := 65) hA rfl (by kernel_rfl) (by kernel_rfl) rfl (fun _ hM => R.loadA sz25 rfl (hM.oldRange hbx3) rfl) rfl ?_; clear hA a; intro a hA
  refine D.callg (dj := 65) hA rfl (by kernel_rfl) rfl (R.callF Try.func18 rfl rfl rfl) rfl (tot08 G ay3 cy3 ay4 cy4 ay5 cy5 ⟨by omega, by omega⟩ _ (hy3.mem hM) (hy4.mem hM) (hy5.mem hM)) ?_; clear hA a
  rintro e w15 ⟨rfl, hb⟩
  replace hM := hM.callB hb; clear hb
  refine ⟨.int .i64 (totI G), rfl, hM, fun a hA => ?_⟩
  refine D.callg (dj := 65) hA rfl (by kernel_rfl) rfl (R.callF Try.func22 rfl rfl rfl) rfl (rtot08 G ay3 cy3 ay4 cy4 ay5 cy5 _ (hy3.mem hM) (hy4.mem hM) (hy5.mem hM)) ?_; clear hA a
  rintro e w16 ⟨rfl, hb⟩
  replace hM := hM.callB hb; clear hb
  refine ⟨.int .i64 (totI G), rfl, hM, fun a hA => ?_⟩
  refine D.valgF (dj := 65) hA rfl (by kernel_rfl) rfl (fun _ => R.tt (R.eql rfl rfl) (by rfl)) rfl ?_; clear hA a; intro a hA
  refine D.valF hA rfl (fun _ => R.pickT rfl rfl) rfl ?_; clear hA a; intro a hA
  refine D.valF hA rfl (fun _ => R.move rfl) rfl ?_; clear hA a; intro a hA
  refine D.valgF (dj := 72) hA rfl (by kernel_rfl) rfl (fun _ => R.move rfl) rfl ?_; clear hA a; intro a hA
  refine D.valgF (dj := 72) hA rfl (by kernel_rfl) rfl (fun _ => R.tt (R.neq rfl rfl) (hz0)) rfl ?_; clear hA a; intro a hA
  refine D.valgF (dj := 72) hA rfl (by kernel_rfl) rfl (fun _ => R.move rfl) rfl ?_; clear hA a; intro a hA
  refine D.no (dj := 75) hA rfl (by kernel_rfl) rfl rfl rfl ?_; clear hA a; intro a hA
  refine D.no (dj := 75) hA rfl (by kernel_rfl) rfl rfl rfl ?_; clear hA a; intro a hA
  refine D.no (dj := 75) hA rfl (by kernel_rfl) rfl rfl rfl ?_; clear hA a; intro a hA
  refine D.noC (dj := 75) hA rfl (by kernel_rfl) rfl rfl hM rfl ?_; clear hA a; intro a hA
  refine D.no (dj := 75) hA rfl (by kernel_rfl) rfl rfl rfl ?_; clear hA a; intro a hA
  refine D.valgF (dj := 72) hA rfl (by kernel_rfl) rfl (fun _ => R.pickT rfl rfl) rfl ?_; clear hA a; intro a hA
  refine D.valF hA rfl (fun _ => R.pickT rfl rfl) rfl ?_; clear hA a; intro a hA
  refine D.valF hA rfl (fun _ => R.assign rfl) rfl ?_; clear hA a; intro a hA
  refine D.done ?_
  replace hA : St 83 [(4, _)] a := hA.sub ((.cons rfl .nil))
  refine Ends.ret1 Try.func5 Try.results5 hA rfl ?_
  exact ⟨rfl, Mem.trans0 hbs hM.nilL⟩
theorem valueCosts_any (v : Value) (i : Ins) (v1 : Value) (x : List Int) (w : World) (h1 : InsV w v i) (_h2 : wfI i) (hx : IntSl w v1 x) (_hw : ∀ y ∈ x, (Lit.int .i64 y).wf = true) :
    Calls Try.prog 5 #[v, v1] w fun e w' => e = .returned (.bool true) ∧ Below w.heap.size w w' := by
  obtain ⟨aw, cw, av, cv, ac, cc, rfl, h3, h4, h5⟩ := h1.parts
  obtain ⟨ay, cy, rfl, -⟩ := hx.form
  exact valueCosts_w i aw cw av cv ac cc ay x cy w h3 h4 h5 hx
end Go.Proofs.Ytnikajkklocncaa
namespace Go.Proofs.Ytnikajkklocncaa
open Go.RowKit Go.WideShapes Go.ChangeShapes
section
variable {H : Type} {enc : TypeId × Value → H} {P : Program} {w : World} {base : Nat} {spare : Nat → Bool} {held : Bool}
theorem open_sli {r : Reach} {b0 : Nat} {t e : TypeId} {v : Value} {d : DataW H} {p : List MemPlace} (ht : P.underlying t = some (.slice e)) (he : P.underlying e = some (.int .i64)) (hce : P.cellsOf e = 1)
    (hv : Value.okWide P w r b0 t v) (h : DataW.Trod enc P w 0 (fun _ => true) held t v d p) :
    ∃ l : List Int, IntSl w v l ∧ ∀ x ∈ l, (Lit.int .i64 x).wf = true := by
  obtain ⟨a, len, cap, rfl⟩ := okWide_slice ht hv
  obtain ⟨fuel, hf⟩ := h
  rcases open_ints ht he hce hf with ⟨hcs, _⟩ | ⟨x, l, c, zs, hcs, _, hl, hm, hz, _, hcell, hwz⟩
  · simp [Value.cells] at hcs
    obtain ⟨rfl, rfl, rfl⟩ := hcs
    exact ⟨[], ⟨none, 0, rfl, Nat.le_refl _, Nat.zero_le _, fun _ => rfl, fun h => (h rfl).elim⟩, fun x hx => by cases hx⟩
  · simp [Value.cells] at hcs
    obtain ⟨rfl, rfl, rfl⟩ := hcs
    simp only [if_true] at hz
    refine ⟨zs.take len, ⟨some x, cap, by rw [List.length_take, Nat.min_eq_left (by omega)], by rw [List.length_take]; omega, hm, (fun h => nomatch h), fun hne => ?_⟩, fun y hy => hwz y (List.mem_of_mem_take hy)⟩
    have h0 : 0 < zs.length ∧ 0 < len := by
      rcases Nat.eq_zero_or_pos len with e | e
      · subst e; simp at hne
      · exact ⟨by omega, e⟩
    obtain ⟨b, off, spot⟩ := x
    have hs : spot = none := by
      have h1 := hcell 0 h0.1
      unfold Addr.add at h1
      simp only [if_true] at h1
      cases spot with
      | none => rfl
      | some s =>
        unfold World.cell? at h1
        split at h1 <;> simp at h1
    subst hs
    refine ⟨b, off, rfl, ?_, fun i hi => ?_⟩
    · have h1 := hcell 0 h0.1
      exact World.block_lt_of_cell? w _ h1
    · rw [List.length_take] at hi
      have h1 := hcell i (by omega)
      rw [Addr.add_lit] at h1
      rw [h1]
      congr 2
      simp only [List.getD_eq_getElem?_getD, List.getElem?_take]
      rw [if_pos (by omega)]
end
end Go.Proofs.Ytnikajkklocncaa
