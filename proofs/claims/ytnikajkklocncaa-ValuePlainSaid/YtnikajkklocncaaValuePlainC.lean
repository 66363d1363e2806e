/-
  ValuePlain, part 3 of 3: what the code computes, and plain laws; no condition beside those that each theorem tells.
-/
import Derived.Test.YtnikajkklocncaaValuePlainB
import Derived.OpenShut
import Derived.ProofKit
import Derived.Deep.Slices
namespace Go.Proofs.Ytnikajkklocncaa
theorem perm_isum {l l' : List Int} (h : l.Perm l') : l.sum = l'.sum := by
  induction h with
  | nil => rfl
  | cons a _ ih => rw [List.sum_cons, List.sum_cons, ih]
  | swap a b l => simp only [List.sum_cons]; omega
  | trans _ _ a b => exact a.trans b
theorem sumF_map (x : List Int) (f : Int → Int) : sumF (fun q => f (x.getD q 0)) x.length = (x.map f).sum := by
  rw [← sumF_list (x.map f), List.length_map]
  exact sumF_congr (fun q hq => by simp [List.getD, hq])
theorem permP.perm {x y : List Int} {n : Nat} (h : permP x n) (h' : permP y n) : x.Perm y := by
  refine List.perm_iff_count.2 (fun a => ?_)
  by_cases ha : 0 ≤ a ∧ a < n
  · obtain ⟨k, rfl⟩ : ∃ k : Nat, a = k := ⟨a.toNat, by omega⟩
    rw [h.2 k (by omega), h'.2 k (by omega)]
  · rw [List.count_eq_zero.2 (fun q => ha (h.mem q)), List.count_eq_zero.2 (fun q => ha (h'.mem q))]
def rng (n : Nat) : List Int := (List.range n).map Int.ofNat
theorem rng_len (n : Nat) : (rng n).length = n := by simp [rng]
theorem rng_get {n q : Nat} (h : q < n) : (rng n).getD q 0 = q := by simp [rng, List.getD, h]
theorem rng_perm {n : Nat} (hn : n ≤ 128) : permP (rng n) n := by
  refine (perm_set hn).1 ⟨rng_len n, fun b _ => ?_⟩
  unfold memF lessF
  refine decide_eq_decide.2 ⟨fun h => ?_, fun h => ?_⟩
  · obtain ⟨c, hc, e⟩ := List.mem_map.1 h
    have h1 := List.mem_range.1 hc
    have h2 : (c : Int) = (b : Int) := e
    omega
  · exact List.mem_map.2 ⟨b, List.mem_range.2 h, rfl⟩
theorem perm_sum {x : List Int} {n : Nat} (hn : n ≤ 128) (h : permP x n) (g : Nat → Int) : sumF (fun q => g (x.getD q 0).toNat) n = sumF g n := by
  have h1 := sumF_map x (fun v => g v.toNat)
  have h2 := sumF_map (rng n) (fun v => g v.toNat)
  have h3 := perm_isum ((h.perm (rng_perm hn)).map (fun v => g v.toNat))
  rw [h.1] at h1
  rw [rng_len] at h2
  rw [h1, h3, ← h2]
  exact sumF_congr (fun q hq => by rw [rng_get hq]; rfl)
theorem cl2_le {i : Ins} (h : InF i) (r c : Int) : cl2 i r c ≤ mxR i r.toNat := by
  unfold cl2 mxR
  by_cases hc : c.toNat < (i.cost.getD r.toNat []).length
  · exact mxF_le (f := fun c => (i.cost.getD r.toNat []).getD c 0) hc
  · rw [getD_out (by omega)]
    exact (mxF_bd (B := 2147483647) (by decide) (fun q _ => (h.cell r.toNat q).2)).1
theorem stp_le_tot {i : Ins} (hF : InF i) (hk : i.kind ≠ 1) {x : List Int} (h : permP x i.n.toNat) : sumF (stp i x) i.n.toNat ≤ sumF (mxR i) i.n.toNat := by
  have hn := hF.n24 hk
  by_cases h2 : i.kind = 2
  · refine sumF_le (fun q _ => ?_)
    unfold stp
    rw [if_pos h2]
    exact cl2_le hF q _
  · rw [← perm_sum (by omega) h (mxR i)]
    refine sumF_le (fun q _ => ?_)
    unfold stp
    rw [if_neg h2]
    exact cl2_le hF _ _
theorem vl_nil {i : Ins} (hF : InF i) (hk : i.kind ≠ 1) : i.vl = [] := by
  have := hF.vl
  rw [if_neg hk] at this
  exact List.eq_nil_of_length_eq_zero this
theorem vlF_le {i : Ins} (hF : InF i) (x : List Int) : sumF (vlF i x) i.vl.length ≤ i.vl.sum := by
  rw [← sumF_list]
  refine sumF_le (fun q _ => ?_)
  have := (hF.vlr q).1
  unfold vlF
  split <;> omega
def rtF (i : Ins) (k : Nat) : Int := if i.kind = 1 then i.vl.getD k 0 else mxR i k
theorem rtF_bd {i : Ins} (h : InF i) (k : Nat) : 0 ≤ rtF i k ∧ rtF i k ≤ 2147483647 := by
  unfold rtF
  split
  · exact h.vlr k
  · exact mxF_bd (by decide) (fun q _ => (h.cell k q).2)
theorem rtF_sum {i : Ins} (h : InF i) : sumF (rtF i) i.n.toNat = i.vl.sum + sumF (mxR i) i.cost.length := by
  have hv := h.vl
  have hc := h.cost
  by_cases hk : i.kind = 1
  · rw [if_pos hk] at hv hc
    rw [hc, ← sumF_list, hv, sumF_congr (g := fun q => i.vl.getD q 0) (fun q _ => by unfold rtF; rw [if_pos hk])]
    simp [sumF]
  · rw [if_neg hk] at hc
    rw [hc, vl_nil h hk, sumF_congr (g := mxR i) (fun q _ => by unfold rtF; rw [if_neg hk])]
    simp
end Go.Proofs.Ytnikajkklocncaa
namespace Go.Proofs.Ytnikajkklocncaa
open Go.RowKit
theorem tot_eq {i : Ins} (h : chk i = 0) : totI i = sumF (rtF i) i.n.toNat := by
  unfold totI; rw [if_neg (not_not_intro h), rtF_sum (chk_inF h)]
theorem tot_bd (i : Ins) : 0 ≤ totI i ∧ totI i ≤ 64 * 2147483647 := by
  by_cases h : chk i = 0
  · rw [tot_eq h]
    have hF := chk_inF h
    have h1 := sumF_bd (f := rtF i) (B := 2147483647) (by decide) (k := i.n.toNat) (fun q _ => rtF_bd hF q)
    have := hF.n64
    omega
  · unfold totI; rw [if_pos h]; decide
theorem costI_kn {i : Ins} {x : List Int} (h : chk i = 0) (hk : i.kind = 1) : costI i x = knpI i x := by unfold costI; rw [if_neg (not_not_intro h), if_pos hk]
theorem costI_or {i : Ins} {x : List Int} (h : chk i = 0) (hk : ¬ i.kind = 1) : costI i x = if ¬ ordP i x then (0, 1) else (sumF (stp i x) i.n.toNat, 0) := by unfold costI; rw [if_neg (not_not_intro h), if_neg hk]
theorem cost_tot {i : Ins} (x : List Int) : (costI i x).1 ≤ totI i := by
  have ht := (tot_bd i).1
  by_cases h : chk i = 0
  · have hF := chk_inF h
    by_cases hk : i.kind = 1
    · rw [costI_kn h hk]
      unfold knpI
      split
      · exact ht
      · rename_i hl
        split
        · exact ht
        · split
          · exact ht
          · have e : totI i = i.vl.sum := by
              have hc := hF.cost
              rw [if_pos hk] at hc
              unfold totI; rw [if_neg (not_not_intro h), hc]; simp [sumF]
            have hv := hF.vl
            rw [if_pos hk] at hv
            have := vlF_le hF x
            rw [e]
            rw [show x.length = i.vl.length by omega]
            exact this
    · rw [costI_or h hk]
      split
      · exact ht
      · rename_i ho
        have ho := Decidable.not_not.1 ho
        have e : totI i = sumF (mxR i) i.n.toNat := by
          have hc := hF.cost
          rw [if_neg hk] at hc
          unfold totI; rw [if_neg (not_not_intro h), hc, vl_nil hF hk]; simp
        rw [e]
        exact stp_le_tot hF hk ho.1
  · unfold costI; rw [if_pos h]; exact ht
theorem rep_get (n q : Nat) : (List.replicate n (0 : Int)).getD q 0 = 0 := by
  rw [List.getD_eq_getElem?_getD, List.getElem?_replicate]; split <;> rfl
theorem pln_cost {i : Ins} (h : chk i = 0) : (costI i (plnI i)).2 = 0 := by
  have hF := chk_inF h
  have h1 := hF.n1
  by_cases hk : i.kind = 1
  · have e : plnI i = List.replicate i.n.toNat 0 := by unfold plnI; rw [if_neg (not_not_intro h), if_pos hk]
    rw [costI_kn h hk, e]
    unfold knpI
    have hl : (List.replicate i.n.toNat (0 : Int)).length = i.n.toNat := List.length_replicate
    have hz : sumF (wtF i (List.replicate i.n.toNat 0)) (List.replicate i.n.toNat (0 : Int)).length = 0 := by
      have : ∀ k, sumF (wtF i (List.replicate i.n.toNat 0)) k = 0 := fun k => by
        induction k with
        | zero => rfl
        | succ k ih => simp only [sumF]; rw [ih]; unfold wtF; rw [rep_get, if_neg (by decide)]; rfl
      exact this _
    have hb : bitP (List.replicate i.n.toNat 0) (List.replicate i.n.toNat (0 : Int)).length := fun q _ => .inl (rep_get _ q)
    rw [if_neg (not_not_intro (by rw [hl]; omega)), if_neg (not_not_intro hb), hz, if_neg (by have := hF.cap.1; omega)]
  · have e : plnI i = rng i.n.toNat := by unfold plnI; rw [if_neg (not_not_intro h), if_neg hk]; rfl
    have hn := hF.n24 hk
    rw [costI_or h hk, e]
    have ho : ordP i (rng i.n.toNat) := ⟨rng_perm (by omega), fun _ => by rw [rng_get (by omega)]; rfl⟩
    rw [if_neg (not_not_intro ho)]
theorem pln_len {i : Ins} (h : chk i = 0) : (plnI i).length = i.n.toNat := by
  unfold plnI; rw [if_neg (not_not_intro h)]; split
  · exact List.length_replicate
  · simp
theorem pln_no {i : Ins} (h : ¬ chk i = 0) : plnI i = [] := if_pos h
theorem pln_get {i : Ins} (h : chk i = 0) {q : Nat} (hq : q < i.n.toNat) : (plnI i).getD q 0 = if i.kind = 1 then 0 else (q : Int) := by
  unfold plnI; rw [if_neg (not_not_intro h)]; split
  · exact rep_get _ q
  · exact rng_get hq
theorem pln_kn {i : Ins} (h : chk i = 0) (hk : i.kind = 1) : List.replicate i.n.toNat 0 = plnI i := by unfold plnI; rw [if_neg (not_not_intro h), if_pos hk]
theorem pln_or {i : Ins} (h : chk i = 0) (hk : ¬ i.kind = 1) : (List.range i.n.toNat).map Int.ofNat = plnI i := by unfold plnI; rw [if_neg (not_not_intro h), if_neg hk]
theorem fil_set (n k : Nat) (h : k < n) : ((List.range k).map Int.ofNat ++ List.replicate (n - k) 0).set k (k : Int) = (List.range (k + 1)).map Int.ofNat ++ List.replicate (n - (k + 1)) 0 := by
  rw [List.set_append_right _ _ (by simp), List.range_succ, List.map_append, List.append_assoc]
  simp only [List.length_map, List.length_range, Nat.sub_self]
  rw [show n - k = (n - (k + 1)) + 1 by omega, List.replicate_succ, List.set_cons_zero]
  rfl
theorem fil_len (n k : Nat) (h : k ≤ n) : ((List.range k).map Int.ofNat ++ List.replicate (n - k) (0 : Int)).length = n := by
  rw [List.length_append, List.length_map, List.length_range, List.length_replicate]; omega
theorem fil_all (n k : Nat) (h : k = n) : (List.range k).map Int.ofNat ++ List.replicate (n - k) (0 : Int) = (List.range n).map Int.ofNat := by subst h; simp
theorem fil_zero (n : Nat) : List.replicate n (0 : Int) = (List.range 0).map Int.ofNat ++ List.replicate (n - 0) 0 := rfl
set_option maxRecDepth 100000 in
set_option maxHeartbeats 400000 in
theorem plain08 (i : Ins) (ax3 : Option Addr) (cx3 : Nat) (ax4 : Option Addr) (cx4 : Nat) (ax5 : Option Addr) (cx5 : Nat) (hsm : i.wt.length ≤ 1000000 ∧ i.vl.length ≤ 1000000) (w : World) (hx3 : IntSl w (.slice ax3 i.wt.length cx3) i.wt) (hx4 : IntSl w (.slice ax4 i.vl.length cx4) i.vl) (hx5 : RowsV w (.slice ax5 i.cost.length cx5) i.cost) :
  Calls Try.prog 14 #[.agg #[.int .i64 i.kind, .int .i64 i.n, .int .i64 i.cap, .slice ax3 i.wt.length cx3, .slice ax4 i.vl.length cx4, .slice ax5 i.cost.length cx5]] w fun e w' => ∃ a c, e = .returned (.slice a ((plnI i)).length c) ∧ IntSl w' (.slice a ((plnI i)).length c) ((plnI i)) ∧ Below w.heap.size w w' := by
 have hbs := Below.refl (B := w.heap.size) w
 have hM := Mem.start w
 refine Calls.of_ends (vs := [.agg #[.int .i64 i.kind, .int .i64 i.n, .int .i64 i.cap, .slice ax3 i.wt.length cx3, .slice ax4 i.vl.length cx4, .slice ax5 i.cost.length cx5]]) Try.func14 rfl Try.ntmps14 rfl ?_
 intro a hA
 replace hA : St 25 [(0, _)] a := hA
 refine Ends.seq (Ends.region ?_)
 refine S.box hA hM rfl rfl ?_; clear hA hM a; intro b1 w1 hb2 hM a hA
 replace hM : Mem _ _ [pt b1 #[.int .i64 i.kind, .int .i64 i.n, .int .i64 i.cap, .slice ax3 i.wt.length cx3, .slice ax4 i.vl.length cx4, .slice ax5 i.cost.length cx5] 25] _ := hM
 refine S.val hA (R.assign rfl) rfl ?_; clear hA a; intro a hA
 refine S.done ?_
 refine Ends.seq (Ends.seq (Ends.region ?_))
 refine S.val hA (R.loadA sz25 rfl (hM.range (k := 0) rfl) rfl) rfl ?_; clear hA a; intro a hA
 refine S.call hA (R.callF Try.func35 rfl rfl rfl) rfl (check05 i ax3 cx3 ax4 cx4 ax5 cx5 hsm _ (hx3.mem hM) (hx4.mem hM) (hx5.mem hM)) ?_; clear hA a
 rintro e w2 ⟨rfl, hb⟩
 replace hM := hM.callB hb; clear hb
 refine ⟨.int .i64 (chk i), rfl, fun a hA => ?_⟩
 refine S.val hA (R.neq rfl rfl) rfl ?_; clear hA a; intro a hA
 refine S.done ?_
 replace hA : St 25 [(1, _), (7, _)] a := hA.sub ((.cons rfl (.cons rfl .nil)))
 refine Ends.ite hA rfl (fun hc3 => ?_) (fun hc3 => ?_)
 ·
  refine Ends.seq (Ends.region ?_)
  refine S.val hA (R.assign rfl) rfl ?_; clear hA a; intro a hA
  refine S.done ?_
  refine Ends.ret1 Try.func14 Try.results14 hA rfl ?_
  have he := pln_no hc3
  exact ⟨none, 0, by rw [he]; rfl, by rw [he]; exact IntSl.nil _, Mem.trans0 hbs hM.nilL⟩
 ·
  have hz : chk i = 0 := Decidable.not_not.1 hc3
  have hF := chk_inF hz
  have f2 := hF.n1
  have f3 := hF.n64
  have f5 := hF.wt
  have f6 := hF.vl
  have f7 := hF.cost
  have hlx0 := inF_len hF
  refine Ends.skip (Ends.seq (Ends.region ?_))
  refine S.val hA (R.fieldAddr (q := 1) fi25_1 rfl rfl rfl) rfl ?_; clear hA a; intro a hA
  refine S.val hA (R.load sz3 rfl (hM.cell (k := 0) rfl rfl)) rfl ?_; clear hA a; intro a hA
  refine S.make hA hM Try.underlying22 info3 rfl rfl rfl (by first | omega | (rw [fil_len _ _ (by omega)]; omega)) (by show (8 : Int) * _ ≤ _; omega) (by first | omega | (rw [fil_len _ _ (by omega)]; omega)) rfl ?_; clear hA hM a; intro b4 w3 hb5 hM a hA
  replace hM : Mem _ _ [pt b4 (madeCells #[.int .i64 0] (i.n.toNat * 1)) 3, pt b1 #[.int .i64 i.kind, .int .i64 i.n, .int .i64 i.cap, .slice ax3 i.wt.length cx3, .slice ax4 i.vl.length cx4, .slice ax5 i.cost.length cx5] 25] _ := hM
  rw [Nat.mul_one, made_ints] at hM
  replace hM : Mem _ _ [pt b4 ((ints (List.replicate i.n.toNat 0))) 3, pt b1 #[.int .i64 i.kind, .int .i64 i.n, .int .i64 i.cap, .slice ax3 i.wt.length cx3, .slice ax4 i.vl.length cx4, .slice ax5 i.cost.length cx5] 25] _ := hM
  refine S.val hA (R.assign rfl) rfl ?_; clear hA a; intro a hA
  refine S.done ?_
  replace hA : St 25 [(1, _), (3, _)] a := hA.sub ((.cons rfl (.cons rfl .nil)))
  refine Ends.seq (Ends.seq (Ends.region ?_))
  refine S.val hA (R.fieldAddr (q := 0) fi25_0 rfl rfl rfl) rfl ?_; clear hA a; intro a hA
  refine S.val hA (R.load sz3 rfl (hM.cell (k := 1) rfl rfl)) rfl ?_; clear hA a; intro a hA
  refine S.val hA (R.neq rfl rfl) rfl ?_; clear hA a; intro a hA
  refine S.done ?_
  refine Ends.ite hA rfl (fun hc6 => ?_) (fun hc6 => ?_)
  ·
   have hk := hc6
   refine Ends.seq (Ends.region ?_)
   refine S.val hA (R.move rfl) rfl ?_; clear hA a; intro a hA
   refine S.val hA (R.lenS Try.underlying22 rfl rfl) rfl ?_; clear hA a; intro a hA
   refine S.val hA (R.move rfl) rfl ?_; clear hA a; intro a hA
   refine S.done ?_
   replace hA : St 25 [(3, _), (15, _), (16, _)] a := hA.sub ((.cons rfl (.cons rfl (.cons rfl .nil))))
   refine Ends.block ?_
   replace hM := Mem.eqM (L2 := [pt b4 ((ints ((List.range 0).map Int.ofNat ++ List.replicate (i.n.toNat - 0) 0))) 3, pt b1 #[.int .i64 i.kind, .int .i64 i.n, .int .i64 i.cap, .slice ax3 i.wt.length cx3, .slice ax4 i.vl.length cx4, .slice ax5 i.cost.length cx5] 25]) hM (by rw [← fil_zero])
   refine Ends.loop (σ := Nat) (fun k (a : Act) (wv : World) => St 25 [(3, .slice (some ⟨b4, 0, none⟩) i.n.toNat i.n.toNat), (15, .int .i64 ((i.n.toNat : Int))), (16, .int .i64 ((k : Int)))] a ∧ Mem w nof [pt b4 ((ints ((List.range k).map Int.ofNat ++ List.replicate (i.n.toNat - k) 0))) 3, pt b1 #[.int .i64 i.kind, .int .i64 i.n, .int .i64 i.cap, .slice ax3 i.wt.length cx3, .slice ax4 i.vl.length cx4, .slice ax5 i.cost.length cx5] 25] wv ∧ (k ≤ i.n.toNat)) (fun k => i.n.toNat - k) 0 ⟨hA.sub ((.cons rfl (.cons rfl (.cons rfl .nil)))), hM, (Nat.zero_le _)⟩ ?_
   clear hA hM a
   rintro k a w4 ⟨hA, hM, hk2⟩ hNext
   refine Ends.seq (Ends.region ?_)
   refine S.val hA (R.lss rfl rfl) rfl ?_; clear hA a; intro a hA
   refine S.done ?_
   refine Ends.seq ?_
   refine Ends.ite hA rfl (fun hc7 => ?_) (fun hc7 => ?_)
   ·
    refine Ends.skip (Ends.seq (Ends.block (Ends.seq (Ends.region ?_))))
    refine S.val hA (R.move rfl) rfl ?_; clear hA a; intro a hA
    refine S.val hA (R.assign rfl) rfl ?_; clear hA a; intro a hA
    refine S.done ?_
    refine Ends.region ?_
    refine S.val hA (R.move rfl) rfl ?_; clear hA a; intro a hA
    refine S.val hA (R.move rfl) rfl ?_; clear hA a; intro a hA
    refine S.val hA (R.move rfl) rfl ?_; clear hA a; intro a hA
    refine S.val hA (R.indexAddr (q := k) sl22 rfl rfl (by first | omega | (rw [fil_len _ _ (by omega)]; omega)) (by first | omega | (rw [fil_len _ _ (by omega)]; omega))) rfl ?_; clear hA a; intro a hA
    refine S.store (k := 0) hA hM sz3 rfl rfl rfl rfl (ints_getD (((List.range k).map Int.ofNat ++ List.replicate (i.n.toNat - k) 0)) _ (by first | omega | (rw [fil_len _ _ (by omega)]; omega))) ?_; clear hM
    intro w5 hM
    rw [ints_set] at hM
    replace hM : Mem _ _ [pt b4 ((ints ((((List.range k).map Int.ofNat ++ List.replicate (i.n.toNat - k) 0)).set k ((k : Int))))) 3, pt b1 #[.int .i64 i.kind, .int .i64 i.n, .int .i64 i.cap, .slice ax3 i.wt.length cx3, .slice ax4 i.vl.length cx4, .slice ax5 i.cost.length cx5] 25] _ := hM
    refine S.done ?_
    replace hA : St 25 [(3, _), (15, _), (16, _)] a := hA.sub ((.cons rfl (.cons rfl (.cons rfl .nil))))
    refine Ends.inBlock (Ends.region ?_)
    refine S.val hA (R.addI rfl rfl (r := ((k : Int)) + 1) rfl (by first | omega | (rw [fil_len _ _ (by omega)]; omega))) rfl ?_; clear hA a; intro a hA
    refine S.val hA (R.move rfl) rfl ?_; clear hA a; intro a hA
    refine S.done ?_
    rw [fil_set _ k (by omega)] at hM
    replace hM : Mem _ _ [pt b4 ((ints ((List.range (k + 1)).map Int.ofNat ++ List.replicate (i.n.toNat - (k + 1)) 0))) 3, pt b1 #[.int .i64 i.kind, .int .i64 i.n, .int .i64 i.cap, .slice ax3 i.wt.length cx3, .slice ax4 i.vl.length cx4, .slice ax5 i.cost.length cx5] 25] _ := hM
    exact hNext ((k + 1)) _ _ ((by show i.n.toNat - (k + 1) < i.n.toNat - k; omega)) ⟨hA.sub ((.cons rfl (.cons rfl (.cons rfl .nil)))), hM, (by omega)⟩
   ·
    have hke : k = i.n.toNat := by omega
    refine Ends.exit rfl ?_
    refine Ends.seq (Ends.region ?_)
    refine S.val hA (R.move rfl) rfl ?_; clear hA a; intro a hA
    refine S.val hA (R.assign rfl) rfl ?_; clear hA a; intro a hA
    refine S.done ?_
    replace hA : St 25 [(2, _)] a := hA.sub ((.cons rfl .nil))
    refine Ends.ret1 Try.func14 Try.results14 hA rfl ?_
    have he : ((List.range k).map Int.ofNat ++ List.replicate (i.n.toNat - k) 0) = plnI i := (fil_all _ _ hke).trans (pln_or hz hk)
    rw [he] at hM
    have hpl := pln_len hz
    have hr := hM.ptRs (k := 0) (X := plnI i) rfl (by omega)
    exact ⟨_, _, by rw [hpl], by rw [hpl] at hr ⊢; exact hr, Mem.trans0 hbs hM.nilL⟩
  ·
   have hk := hc6
   refine Ends.skip (Ends.seq (Ends.region ?_))
   refine S.val hA (R.move rfl) rfl ?_; clear hA a; intro a hA
   refine S.val hA (R.assign rfl) rfl ?_; clear hA a; intro a hA
   refine S.done ?_
   replace hA : St 25 [(2, _)] a := hA.sub ((.cons rfl .nil))
   refine Ends.ret1 Try.func14 Try.results14 hA rfl ?_
   have he : (List.replicate i.n.toNat 0) = plnI i := pln_kn hz (Decidable.not_not.1 hk)
   rw [he] at hM
   have hpl := pln_len hz
   have hr := hM.ptRs (k := 0) (X := plnI i) rfl (by omega)
   exact ⟨_, _, by rw [hpl], by rw [hpl] at hr ⊢; exact hr, Mem.trans0 hbs hM.nilL⟩
set_option maxRecDepth 100000 in
set_option maxHeartbeats 400000 in
theorem tot08 (i : Ins) (ax3 : Option Addr) (cx3 : Nat) (ax4 : Option Addr) (cx4 : Nat) (ax5 : Option Addr) (cx5 : Nat) (hsm : i.wt.length ≤ 1000000 ∧ i.vl.length ≤ 1000000) (w : World) (hx3 : IntSl w (.slice ax3 i.wt.length cx3) i.wt) (hx4 : IntSl w (.slice ax4 i.vl.length cx4) i.vl) (hx5 : RowsV w (.slice ax5 i.cost.length cx5) i.cost) :
  Calls Try.prog 18 #[.agg #[.int .i64 i.kind, .int .i64 i.n, .int .i64 i.cap, .slice ax3 i.wt.length cx3, .slice ax4 i.vl.length cx4, .slice ax5 i.cost.length cx5]] w fun e w' => e = .returned (.int .i64 (totI i)) ∧ Below w.heap.size w w' := by
 have hbs := Below.refl (B := w.heap.size) w
 have hM := Mem.start w
 refine Calls.of_ends (vs := [.agg #[.int .i64 i.kind, .int .i64 i.n, .int .i64 i.cap, .slice ax3 i.wt.length cx3, .slice ax4 i.vl.length cx4, .slice ax5 i.cost.length cx5]]) Try.func18 rfl Try.ntmps18 rfl ?_
 intro a hA
 replace hA : St 25 [(0, _)] a := hA
 refine Ends.seq (Ends.region ?_)
 refine S.box hA hM rfl rfl ?_; clear hA hM a; intro b1 w1 hb2 hM a hA
 replace hM : Mem _ _ [pt b1 #[.int .i64 i.kind, .int .i64 i.n, .int .i64 i.cap, .slice ax3 i.wt.length cx3, .slice ax4 i.vl.length cx4, .slice ax5 i.cost.length cx5] 25] _ := hM
 refine S.val hA (R.assign rfl) rfl ?_; clear hA a; intro a hA
 refine S.done ?_
 refine Ends.seq (Ends.seq (Ends.region ?_))
 refine S.val hA (R.loadA sz25 rfl (hM.range (k := 0) rfl) rfl) rfl ?_; clear hA a; intro a hA
 refine S.call hA (R.callF Try.func35 rfl rfl rfl) rfl (check05 i ax3 cx3 ax4 cx4 ax5 cx5 hsm _ (hx3.mem hM) (hx4.mem hM) (hx5.mem hM)) ?_; clear hA a
 rintro e w2 ⟨rfl, hb⟩
 replace hM := hM.callB hb; clear hb
 refine ⟨.int .i64 (chk i), rfl, fun a hA => ?_⟩
 refine S.val hA (R.neq rfl rfl) rfl ?_; clear hA a; intro a hA
 refine S.done ?_
 replace hA : St 25 [(1, _), (8, _)] a := hA.sub ((.cons rfl (.cons rfl .nil)))
 refine Ends.ite hA rfl (fun hc3 => ?_) (fun hc3 => ?_)
 ·
  refine Ends.seq (Ends.region ?_)
  refine S.val hA (R.assign rfl) rfl ?_; clear hA a; intro a hA
  refine S.done ?_
  refine Ends.ret1 Try.func18 Try.results18 hA rfl ?_
  exact ⟨by unfold totI; rw [if_pos hc3], Mem.trans0 hbs hM.nilL⟩
 ·
  have hz : chk i = 0 := Decidable.not_not.1 hc3
  have hF := chk_inF hz
  have f2 := hF.n1
  have f3 := hF.n64
  have f5 := hF.wt
  have f6 := hF.vl
  have f7 := hF.cost
  have hlx0 := inF_len hF
  have hvs := vl_sum hF
  have hrow := hF.row
  refine Ends.skip (Ends.seq (Ends.region ?_))
  refine S.val hA (R.fieldAddr (q := 4) fi25_4 rfl rfl rfl) rfl ?_; clear hA a; intro a hA
  refine S.val hA (R.load sz22 rfl (hM.cell (k := 0) rfl rfl)) rfl ?_; clear hA a; intro a hA
  refine S.call hA (R.callF Try.func43 rfl rfl rfl) rfl (total08 ax4 i.vl cx4 (by omega) (fun q => hF.vlr q) _ (hx4.mem hM)) ?_; clear hA a
  rintro e w3 ⟨rfl, hb⟩
  replace hM := hM.callB hb; clear hb
  refine ⟨.int .i64 i.vl.sum, rfl, fun a hA => ?_⟩
  refine S.val hA (R.assign rfl) rfl ?_; clear hA a; intro a hA
  refine S.done ?_
  replace hA : St 25 [(1, _), (3, _)] a := hA.sub ((.cons rfl (.cons rfl .nil)))
  refine Ends.seq (Ends.seq (Ends.region ?_))
  refine S.val hA (R.fieldAddr (q := 5) fi25_5 rfl rfl rfl) rfl ?_; clear hA a; intro a hA
  refine S.val hA (R.load sz23 rfl (hM.cell (k := 0) rfl rfl)) rfl ?_; clear hA a; intro a hA
  refine S.val hA (R.lenS Try.underlying23 rfl rfl) rfl ?_; clear hA a; intro a hA
  refine S.val hA (R.move rfl) rfl ?_; clear hA a; intro a hA
  refine S.done ?_
  refine Ends.block ?_
  rw [show i.vl.sum = i.vl.sum + sumF (mxR i) 0 by simp [sumF]] at hA
  refine Ends.loop (σ := Nat) (fun r (a : Act) (wv : World) => St 25 [(3, .int .i64 (i.vl.sum + sumF (mxR i) r)), (13, .slice ax5 i.cost.length cx5), (14, .int .i64 ((i.cost.length : Int))), (15, .int .i64 ((r : Int)))] a ∧ Mem w nof [pt b1 #[.int .i64 i.kind, .int .i64 i.n, .int .i64 i.cap, .slice ax3 i.wt.length cx3, .slice ax4 i.vl.length cx4, .slice ax5 i.cost.length cx5] 25] wv ∧ (r ≤ i.cost.length)) (fun r => i.cost.length - r) 0 ⟨hA.sub ((.cons rfl (.cons rfl (.cons rfl (.cons rfl .nil))))), hM, (Nat.zero_le _)⟩ ?_
  clear hA hM a
  rintro r a w4 ⟨hA, hM, hr⟩ hNext
  refine Ends.seq (Ends.region ?_)
  refine S.val hA (R.lss rfl rfl) rfl ?_; clear hA a; intro a hA
  refine S.done ?_
  refine Ends.seq ?_
  refine Ends.ite hA rfl (fun hc4 => ?_) (fun hc4 => ?_)
  ·
   have hrk := hrow r (by omega)
   have hmx := mxS_bd hF r (by omega)
   have hmr := mxR_bd hF r
   refine Ends.skip (Ends.seq (Ends.block (Ends.seq (Ends.region ?_))))
   refine S.val hA (R.idxR hx5 (j := r) sl23 rfl rfl (by omega) (rfl)) rfl ?_; clear hA a; intro a hA
   obtain ⟨ra5, rc6, hrow7, hld8⟩ := hx5.atP (i := r) (by omega)
   refine S.val hA (hld8 _ _ _ _ _ _ hM sz22 rfl) rfl ?_; clear hA a; intro a hA
   refine S.val hA (R.assign rfl) rfl ?_; clear hA a; intro a hA
   refine S.done ?_
   refine Ends.region ?_
   refine S.val hA (R.move rfl) rfl ?_; clear hA a; intro a hA
   refine S.val hA (R.move rfl) rfl ?_; clear hA a; intro a hA
   refine S.call hA (R.callF Try.func44 rfl rfl rfl) rfl (max08 ra5 ((i.cost.getD r [])) rc6 (by omega) (fun q => hF.cell r q) _ (hrow7.mem hM)) ?_; clear hA a
   rintro e w5 ⟨rfl, hb⟩
   replace hM := hM.callB hb; clear hb
   refine ⟨.int .i64 (mxR i r), rfl, fun a hA => ?_⟩
   refine S.val hA (R.addI rfl rfl (r := (i.vl.sum + sumF (mxR i) r) + (mxR i r)) rfl (by omega)) rfl ?_; clear hA a; intro a hA
   refine S.val hA (R.assign rfl) rfl ?_; clear hA a; intro a hA
   refine S.done ?_
   replace hA : St 25 [(3, _), (13, _), (14, _), (15, _)] a := hA.sub ((.cons rfl (.cons rfl (.cons rfl (.cons rfl .nil)))))
   refine Ends.inBlock (Ends.region ?_)
   refine S.val hA (R.addI rfl rfl (r := ((r : Int)) + 1) rfl (by omega)) rfl ?_; clear hA a; intro a hA
   refine S.val hA (R.move rfl) rfl ?_; clear hA a; intro a hA
   refine S.done ?_
   have hs9 : i.vl.sum + sumF (mxR i) (r + 1) = (i.vl.sum + sumF (mxR i) r) + (mxR i r) := by simp only [sumF]; omega
   rw [← hs9] at hA
   exact hNext ((r + 1)) _ _ ((by show i.cost.length - (r + 1) < i.cost.length - r; omega)) ⟨hA.sub ((.cons rfl (.cons rfl (.cons rfl (.cons rfl .nil))))), hM, (by omega)⟩
  ·
   have hre : r = i.cost.length := by omega
   refine Ends.exit rfl ?_
   replace hA : St 25 [(3, _)] a := hA.sub ((.cons rfl .nil))
   refine Ends.seq (Ends.region ?_)
   refine S.val hA (R.move rfl) rfl ?_; clear hA a; intro a hA
   refine S.val hA (R.assign rfl) rfl ?_; clear hA a; intro a hA
   refine S.done ?_
   refine Ends.ret1 Try.func18 Try.results18 hA rfl ?_
   exact ⟨by unfold totI; rw [if_neg (not_not_intro hz), ← hre], Mem.trans0 hbs hM.nilL⟩
end Go.Proofs.Ytnikajkklocncaa
namespace Go.Proofs.Ytnikajkklocncaa
open Go.RowKit Go.WideShapes Go.ChangeShapes Go.Deep
section
variable {H : Type} {enc : TypeId × Value → H} {P : Program} {w : World}
theorem trod_ints {t e : TypeId} {fuel : Nat} {cs : List Value} {x : DataW H × List MemPlace} {held : Bool} (ht : P.underlying t = some (.slice e)) (he : P.underlying e = some (.int .i64)) (hce : P.cellsOf e = 1)
    (h : DataW.trod enc P w 0 (fun _ => true) held fuel t cs = some x) : ∃ (u : Value) (l : List Int), cs = [u] ∧ IntSl w u l ∧ ∀ y ∈ l, (Lit.int .i64 y).wf = true := by
  rcases open_ints ht he hce h with ⟨hcs, _⟩ | ⟨x, len, cap, zs, hcs, _, hl, hm, hz, _, hcell, hwz⟩
  · exact ⟨_, [], hcs, IntSl.nil w, fun x hx => by cases hx⟩
  · simp only [if_true] at hz
    refine ⟨_, zs.take len, hcs, ⟨some x, cap, by rw [List.length_take, Nat.min_eq_left (by omega)], by rw [List.length_take]; omega, hm, (fun h => nomatch h), fun hne => ?_⟩, fun y hy => hwz y (List.mem_of_mem_take hy)⟩
    have h0 : 0 < zs.length ∧ 0 < len := by
      rcases Nat.eq_zero_or_pos len with e | e
      · subst e; simp at hne
      · exact ⟨by omega, e⟩
    obtain ⟨b, off, spot⟩ := x
    have hs : spot = none := by
      have h1 := hcell 0 h0.1
      unfold Addr.add at h1
      simp only [if_true] at h1
      cases spot with
      | none => rfl
      | some s =>
        unfold World.cell? at h1
        split at h1 <;> simp at h1
    subst hs
    refine ⟨b, off, rfl, ?_, fun i hi => ?_⟩
    · have h1 := hcell 0 h0.1
      exact World.block_lt_of_cell? w _ h1
    · rw [List.length_take] at hi
      have h1 := hcell i (by omega)
      rw [Addr.add_lit] at h1
      rw [h1]
      congr 2
      simp only [List.getD_eq_getElem?_getD, List.getElem?_take]
      rw [if_pos (by omega)]
theorem trod_rows {t e f : TypeId} {fuel : Nat} {cs : List Value} {x : DataW H × List MemPlace} {held : Bool} (ht : P.underlying t = some (.slice e)) (hu : P.underlying e = some (.slice f)) (hc1 : P.cellsOf e = 1) (he : P.underlying f = some (.int .i64)) (hce : P.cellsOf f = 1)
  (h : DataW.trod enc P w 0 (fun _ => true) held fuel t cs = some x) : ∃ (u : Value) (R : List (List Int)), cs = [u] ∧ RowsV w u R ∧ ∀ r ∈ R, ∀ y ∈ r, (Lit.int .i64 y).wf = true := by
 rcases open_slice ht h with ⟨hcs, _⟩ | ⟨x, len, cap, m, nn, D, Pl, hcs, hb, hl, hm, hmm, -, hx⟩
 · exact ⟨_, [], hcs, RowsV.nil w, fun x hx => by cases hx⟩
 ·
  simp only [if_true] at hmm
  subst hmm
  have each : ∀ i, i < len → ∃ (u : Value) (l : List Int), w.cell? (x.add i) = some u ∧ IntSl w u l ∧ ∀ y ∈ l, (Lit.int .i64 y).wf = true := by
   intro i hi
   obtain ⟨cs', h1, h2⟩ := hx i (by omega)
   obtain ⟨u, l, rfl, h3, h4⟩ := trod_ints hu he hce h2
   rw [hc1, Nat.mul_one] at h1
   obtain ⟨-, hlen, hcell⟩ := World.cells?_some h1
   have h5 := hcell 0 (by omega)
   refine ⟨u, l, ?_, h3, h4⟩
   have e0 : (x.add i).add 0 = x.add i := by simp [Addr.add]
   rw [e0] at h5
   rw [h5]; rfl
  rcases Nat.eq_zero_or_pos len with e0 | e0
  ·
   subst e0
   exact ⟨_, [], hcs, ⟨some x, _, rfl, hl, hm, (fun h => nomatch h), fun h => absurd rfl h⟩, fun x hx => by cases hx⟩
  let f : Nat → List Int := fun i => if hi : i < len then Classical.choose (Classical.choose_spec (each i hi)) else []
  have hf : ∀ i, i < len → ∃ u, w.cell? (x.add i) = some u ∧ IntSl w u (f i) ∧ ∀ y ∈ f i, (Lit.int .i64 y).wf = true := fun i hi => by
   refine ⟨Classical.choose (each i hi), ?_⟩
   have := Classical.choose_spec (Classical.choose_spec (each i hi))
   simp only [f, hi, dif_pos]
   exact this
  have hlen : ((List.range len).map f).length = len := by simp
  obtain ⟨b, off, spot⟩ := x
  have hs : spot = none := by
   obtain ⟨u, h1, -⟩ := hf 0 e0
   unfold Addr.add at h1
   cases spot with
   | none => rfl
   | some s =>
    unfold World.cell? at h1
    split at h1 <;> simp at h1
  subst hs
  refine ⟨_, (List.range len).map f, hcs, ⟨some ⟨b, off, none⟩, _, by rw [hlen], by rw [hlen]; exact hl, hm, (fun h => nomatch h), fun _ => ⟨b, off, rfl, ?_, fun i hi => ?_⟩⟩, fun r hr => ?_⟩
  ·
   obtain ⟨u, h1, -⟩ := hf 0 e0
   exact World.block_lt_of_cell? w _ h1
  ·
   rw [hlen] at hi
   obtain ⟨u, h1, h2, -⟩ := hf i hi
   rw [Addr.add_lit] at h1
   refine ⟨u, h1, ?_⟩
   rw [show ((List.range len).map f).getD i [] = f i by simp [List.getD, hi]]
   exact h2
  ·
   obtain ⟨i, hi, rfl⟩ := List.mem_map.1 hr
   obtain ⟨u, -, -, h3⟩ := hf i (List.mem_range.1 hi)
   exact h3
def wfI (i : Ins) : Prop := (Lit.int .i64 i.kind).wf = true ∧ (Lit.int .i64 i.n).wf = true ∧ (Lit.int .i64 i.cap).wf = true ∧ (∀ y ∈ i.wt, (Lit.int .i64 y).wf = true) ∧ (∀ y ∈ i.vl, (Lit.int .i64 y).wf = true) ∧ ∀ r ∈ i.cost, ∀ y ∈ r, (Lit.int .i64 y).wf = true
theorem open_ins {r : Reach} {b0 : Nat} {t tI tS tR : TypeId} {fs : Array Field} {v : Value} {d : DataW H} {p : List MemPlace} {held : Bool} (ht : P.underlying t = some (.struct fs)) (hcells : P.cellsOf t = 6) (hI : P.underlying tI = some (.int .i64)) (hcI : P.cellsOf tI = 1) (hS : P.underlying tS = some (.slice tI)) (hcS : P.cellsOf tS = 1) (hR : P.underlying tR = some (.slice tS)) (hcR : P.cellsOf tR = 1)
  (hf : ∃ f0 f1 f2 f3 f4 f5 : Field, fs = #[f0, f1, f2, f3, f4, f5] ∧ (f0.type = tI ∧ f1.type = tI ∧ f2.type = tI ∧ f3.type = tS ∧ f4.type = tS ∧ f5.type = tR) ∧ f0.offset = 0 ∧ f1.offset = 1 ∧ f2.offset = 2 ∧ f3.offset = 3 ∧ f4.offset = 4 ∧ f5.offset = 5)
  (hv : Value.okWide P w r b0 t v) (h : DataW.Trod enc P w 0 (fun _ => true) held t v d p) : ∃ i : Ins, InsV w v i ∧ wfI i := by
 simp only [Value.okWide, ht] at hv
 obtain ⟨cs, rfl, hsz, -⟩ := hv
 obtain ⟨fuel, hfu⟩ := h
 obtain ⟨f0, f1, f2, f3, f4, f5, rfl, ⟨t0, t1, t2, t3, t4, t5⟩, o0, o1, o2, o3, o4, o5⟩ := hf
 obtain ⟨xs, k, -, -, hlen, hxl, hfd⟩ := DataW.trod_struct ht hfu
 rw [hcells] at hlen hsz
 obtain ⟨c0, c1, c2, c3, c4, c5, rfl⟩ : ∃ c0 c1 c2 c3 c4 c5, cs = #[c0, c1, c2, c3, c4, c5] := by
  match cs, hsz with
  | ⟨[c0, c1, c2, c3, c4, c5]⟩, _ => exact ⟨c0, c1, c2, c3, c4, c5, rfl⟩
 have hx : ∀ j, j < 6 → ∃ y, xs[j]? = some y := fun j hj => ⟨xs[j]'(by rw [hxl]; exact hj), List.getElem?_eq_getElem _⟩
 have g : ∀ (j : Nat) (f : Field) (tt : TypeId) (c : Value), (#[f0, f1, f2, f3, f4, f5] : Array Field)[j]? = some f → j < 6 → f.type = tt → f.offset = j → P.cellsOf tt = 1 → (([c0, c1, c2, c3, c4, c5] : List Value).drop j).take 1 = [c] → ∃ y, DataW.trod enc P w 0 (fun _ => true) held k tt [c] = some y := by
  intro j f tt c h1 hj h2 h3 h4 h5
  have := hfd j f h1
  rw [h2, h3, h4] at this
  obtain ⟨y, hy⟩ := hx j hj
  refine ⟨y, ?_⟩
  rw [← hy, ← this, ← h5]
  rfl
 obtain ⟨y0, g0⟩ := g 0 f0 tI c0 rfl (by omega) t0 o0 hcI rfl
 obtain ⟨y1, g1⟩ := g 1 f1 tI c1 rfl (by omega) t1 o1 hcI rfl
 obtain ⟨y2, g2⟩ := g 2 f2 tI c2 rfl (by omega) t2 o2 hcI rfl
 obtain ⟨y3, g3⟩ := g 3 f3 tS c3 rfl (by omega) t3 o3 hcS rfl
 obtain ⟨y4, g4⟩ := g 4 f4 tS c4 rfl (by omega) t4 o4 hcS rfl
 obtain ⟨y5, g5⟩ := g 5 f5 tR c5 rfl (by omega) t5 o5 hcR rfl
 obtain ⟨n0, e0, -, w0⟩ := DataW.trod_int hI g0
 obtain ⟨n1, e1, -, w1⟩ := DataW.trod_int hI g1
 obtain ⟨n2, e2, -, w2⟩ := DataW.trod_int hI g2
 obtain ⟨u3, l3, e3, s3, w3⟩ := trod_ints hS hI hcI g3
 obtain ⟨u4, l4, e4, s4, w4⟩ := trod_ints hS hI hcI g4
 obtain ⟨u5, R, e5, s5, w5⟩ := trod_rows hR hS hcS hI hcI g5
 cases e0
 cases e1
 cases e2
 cases e3
 cases e4
 cases e5
 exact ⟨⟨n0, n1, n2, l3, l4, R⟩, ⟨_, _, _, rfl, s3, s4, s5⟩, w0, w1, w2, w3, w4, w5⟩
end
end Go.Proofs.Ytnikajkklocncaa
namespace Go.Proofs.Ytnikajkklocncaa
open Go.RowKit
theorem D.appendI {P : Program} {a : Act} {w w0 : World} {nn : Nat} {l : List (Nat × Value)} {Q : Exit → Act → World → Prop} {F : Nat → Prop} {L : List Ck} {S : World → Prop} {os : List Oper} {is : Ordt} {i last : Nat} {b0 : Bool} {d : Nat} {t e ty : TypeId} {x y : Operand} {pos : String} {aft : Array Edge}
    {k n bytes cap : Nat} {v z : Value} {xs : List Value} {X : List Int} {ad : Option Addr} {j : TypeInfo} (hA : St nn l a) (hM : Mem w0 F L w) (ho : ith os i = some { dst := some d, op := .call { callee := .builtin .append, args := #[x, y], argTypes := #[t, t] }, type := ty, pos, after := aft, guard := none })
    (hk : ith L k = some (own e 1 v n xs)) (hX : IntSl w (.slice ad X.length cap) X) (hpos : 0 < X.length) (ht : P.underlying t = some (.slice e)) (hi : P.info? e = some j) (hz : j.zero = some z) (hsz : j.size = 1) (hby : j.bytes = bytes) (hzs : z.cells.size = 1)
    (hx : opv l x = some v) (hy : opv l y = some (.slice ad X.length cap)) (hmax : n + X.length ≤ maxLen) (hbs : (n + X.length) * bytes ≤ 140737488355328) (hd : Nat.blt d nn = true)
    (h : ∀ a' cap' w', Mem w0 F (setAt L k (own e 1 (.slice a' (n + X.length) cap') (n + X.length) (xs ++ X.map (Value.int .i64)))) w' → S w' ∧ ∀ a, St nn ((d, .slice a' (n + X.length) cap') :: l) a → wpOrd P last os Q S b0 is a w') : wpOrd P last os Q S b0 (.cons (i, false) is) a w := by
  obtain ⟨ad', cap', he, hle, hmx, hnn, hc⟩ := hX
  injection he with he1 he2 he3
  subst he1 he3
  cases ad with
  | none => exact absurd (hnn rfl) (by omega)
  | some p =>
    refine D.appendG hA hM ho hk ht hi hz hsz hby hzs (by decide) hx hy (by simp) (fun j u hu => ?_) (allOne_ints X) hmax hbs hd h
    obtain ⟨hj, rfl⟩ := mapi_take X j u hu
    obtain ⟨b, off, hb, hlt, hcell⟩ := hc (by intro e0; rw [e0] at hj; simp at hj)
    cases hb
    rw [Addr.add_lit]; exact hcell j hj
end Go.Proofs.Ytnikajkklocncaa
namespace Go.Proofs.Ytnikajkklocncaa
open Go.RowKit
theorem rows3 {w : World} {b b0 b1 b2 : Nat} {R0 R1 R2 : List Int} {t : TypeId} (hb : w.heap[b]? = some (.cells #[.slice (some ⟨b0, 0, none⟩) 3 3, .slice (some ⟨b1, 0, none⟩) 3 3, .slice (some ⟨b2, 0, none⟩) 3 3] t (0, 0)))
    (h0 : IntSl w (.slice (some ⟨b0, 0, none⟩) 3 3) R0) (h1 : IntSl w (.slice (some ⟨b1, 0, none⟩) 3 3) R1) (h2 : IntSl w (.slice (some ⟨b2, 0, none⟩) 3 3) R2) : RowsV w (.slice (some ⟨b, 0, none⟩) 3 3) [R0, R1, R2] := by
  refine ⟨some ⟨b, 0, none⟩, 3, rfl, by simp, by unfold maxLen; omega, (fun h => nomatch h), fun _ => ⟨b, 0, rfl, lt_of_block hb, fun i hi => ?_⟩⟩
  rw [Nat.zero_add]
  match i, hi with
  | 0, _ => exact ⟨_, by simp [World.cell?, hb], h0⟩
  | 1, _ => exact ⟨_, by simp [World.cell?, hb], h1⟩
  | 2, _ => exact ⟨_, by simp [World.cell?, hb], h2⟩
  | i + 3, h => exact absurd h (by simp)
def iV : Ins := ⟨3, 3, 0, [], [], [[0, 1, 2], [3, 0, 4], [5, 6, 0]]⟩
theorem chk_v : chk iV = 0 := by
  have hs : shapeOK iV := .inr ⟨by decide, rfl, rfl, rfl, rfl, fun r hr => by
    match r, hr with
    | 0, _ => rfl
    | 1, _ => rfl
    | 2, _ => rfl
    | r + 3, h => exact absurd h (by show ¬ r + 3 < 3; omega)⟩
  unfold chk
  rw [if_neg (not_not_intro (show sizeE iV = 0 by decide)), if_pos hs]
  first | rfl | decide
theorem cost_v : costI iV [0, 2, 1] = (11, 0) := by
  rw [costI_or chk_v (by decide), if_neg (not_not_intro (show ordP iV [0, 2, 1] from ⟨by decide, fun _ => rfl⟩))]
  decide
theorem plain_v : plnI iV = [0, 1, 2] := by unfold plnI; rw [if_neg (not_not_intro chk_v), if_neg (by decide)]; rfl
theorem tot_v : totI iV = 12 := by unfold totI; rw [if_neg (not_not_intro chk_v)]; decide
theorem cost_vw (av3 : Option Addr) (cv3 : Nat) (av4 : Option Addr) (cv4 : Nat) (av5 : Option Addr) (cv5 : Nat) (ay : Option Addr) (cy : Nat) (w : World) (hv3 : IntSl w (.slice av3 iV.wt.length cv3) iV.wt) (hv4 : IntSl w (.slice av4 iV.vl.length cv4) iV.vl) (hv5 : RowsV w (.slice av5 iV.cost.length cv5) iV.cost) (hy : IntSl w (.slice ay ([0, 2, 1] : List Int).length cy) [0, 2, 1]) :
    Calls Try.prog 17 #[.agg #[.int .i64 iV.kind, .int .i64 iV.n, .int .i64 iV.cap, .slice av3 iV.wt.length cv3, .slice av4 iV.vl.length cv4, .slice av5 iV.cost.length cv5], .slice ay ([0, 2, 1] : List Int).length cy] w fun e w' => e = .returned (.tuple #[.int .i64 11, .int .i64 0]) ∧ Below w.heap.size w w' := by
  have h := cost08 iV av3 cv3 av4 cv4 av5 cv5 ay [0, 2, 1] cy ⟨by decide, by decide⟩ w hv3 hv4 hv5 hy
  rwa [cost_v] at h
theorem plain_vw (av3 : Option Addr) (cv3 : Nat) (av4 : Option Addr) (cv4 : Nat) (av5 : Option Addr) (cv5 : Nat) (w : World) (hv3 : IntSl w (.slice av3 iV.wt.length cv3) iV.wt) (hv4 : IntSl w (.slice av4 iV.vl.length cv4) iV.vl) (hv5 : RowsV w (.slice av5 iV.cost.length cv5) iV.cost) : Calls Try.prog 14 #[.agg #[.int .i64 iV.kind, .int .i64 iV.n, .int .i64 iV.cap, .slice av3 iV.wt.length cv3, .slice av4 iV.vl.length cv4, .slice av5 iV.cost.length cv5]] w (fun e w' => ∃ a c, e = .returned (.slice a (([0, 1, 2] : List Int)).length c) ∧ IntSl w' (.slice a (([0, 1, 2] : List Int)).length c) (([0, 1, 2] : List Int)) ∧ Below w.heap.size w w') := by
  have h := plain08 iV av3 cv3 av4 cv4 av5 cv5 ⟨by decide, by decide⟩ w hv3 hv4 hv5
  rwa [plain_v] at h
theorem tot_vw (av3 : Option Addr) (cv3 : Nat) (av4 : Option Addr) (cv4 : Nat) (av5 : Option Addr) (cv5 : Nat) (w : World) (hv3 : IntSl w (.slice av3 iV.wt.length cv3) iV.wt) (hv4 : IntSl w (.slice av4 iV.vl.length cv4) iV.vl) (hv5 : RowsV w (.slice av5 iV.cost.length cv5) iV.cost) : Calls Try.prog 18 #[.agg #[.int .i64 iV.kind, .int .i64 iV.n, .int .i64 iV.cap, .slice av3 iV.wt.length cv3, .slice av4 iV.vl.length cv4, .slice av5 iV.cost.length cv5]] w (fun e w' => e = .returned (.int .i64 12) ∧ Below w.heap.size w w') := by
  have h := tot08 iV av3 cv3 av4 cv4 av5 cv5 ⟨by decide, by decide⟩ w hv3 hv4 hv5
  rwa [tot_v] at h
set_option maxRecDepth 100000 in
set_option maxHeartbeats 400000 in
theorem values_any  (w : World) :
  Calls Try.prog 16 #[] w fun e w' => e = .returned (.bool true) ∧ Below w.heap.size w w' := by
 have hbs := Below.refl (B := w.heap.size) w
 have hM := Mem.start w
 refine Calls.of_ends (vs := []) Try.func16 rfl Try.ntmps16 rfl ?_
 intro a hA
 replace hA : St 40 [] a := hA
 refine Ends.seq (Ends.region ?_)
 refine S.val hA (R.assign rfl) rfl ?_; clear hA a; intro a hA
 refine S.done ?_
 refine Ends.seq (Ends.region ?_)
 refine S.buildSl (cells := #[.int .i64 0, .int .i64 1, .int .i64 2]) hA hM Try.underlying22 info3 rfl rfl rfl rfl (by kernel_rfl) rfl ?_; clear hA hM a; intro b1 w1 hb2 hM a hA
 replace hM : Mem _ _ [pt b1 #[.int .i64 0, .int .i64 1, .int .i64 2] 3] _ := hM
 refine S.buildSl (cells := #[.int .i64 3, .int .i64 0, .int .i64 4]) hA hM Try.underlying22 info3 rfl rfl rfl rfl (by kernel_rfl) rfl ?_; clear hA hM a; intro b3 w2 hb4 hM a hA
 replace hM : Mem _ _ [pt b3 #[.int .i64 3, .int .i64 0, .int .i64 4] 3, pt b1 #[.int .i64 0, .int .i64 1, .int .i64 2] 3] _ := hM
 refine S.buildSl (cells := #[.int .i64 5, .int .i64 6, .int .i64 0]) hA hM Try.underlying22 info3 rfl rfl rfl rfl (by kernel_rfl) rfl ?_; clear hA hM a; intro b5 w3 hb6 hM a hA
 replace hM : Mem _ _ [pt b5 #[.int .i64 5, .int .i64 6, .int .i64 0] 3, pt b3 #[.int .i64 3, .int .i64 0, .int .i64 4] 3, pt b1 #[.int .i64 0, .int .i64 1, .int .i64 2] 3] _ := hM
 refine S.buildSl (cells := #[.slice (some ⟨b1, 0, none⟩) 3 3, .slice (some ⟨b3, 0, none⟩) 3 3, .slice (some ⟨b5, 0, none⟩) 3 3]) hA hM Try.underlying23 info22 rfl rfl rfl rfl (by kernel_rfl) rfl ?_; clear hA hM a; intro b7 w4 hb8 hM a hA
 replace hM : Mem _ _ [pt b7 #[.slice (some ⟨b1, 0, none⟩) 3 3, .slice (some ⟨b3, 0, none⟩) 3 3, .slice (some ⟨b5, 0, none⟩) 3 3] 22, pt b5 #[.int .i64 5, .int .i64 6, .int .i64 0] 3, pt b3 #[.int .i64 3, .int .i64 0, .int .i64 4] 3, pt b1 #[.int .i64 0, .int .i64 1, .int .i64 2] 3] _ := hM
 refine S.val hA (R.build (cells := #[.int .i64 3, .int .i64 3, .int .i64 0, .slice none 0 0, .slice none 0 0, .slice (some ⟨b7, 0, none⟩) 3 3]) rfl (by kernel_rfl)) rfl ?_; clear hA a; intro a hA
 refine S.alloc hA hM info25 rfl rfl ?_; clear hA hM a; intro b9 w5 hb10 hM a hA
 replace hM : Mem _ _ [pt b9 cz0 25, pt b7 #[.slice (some ⟨b1, 0, none⟩) 3 3, .slice (some ⟨b3, 0, none⟩) 3 3, .slice (some ⟨b5, 0, none⟩) 3 3] 22, pt b5 #[.int .i64 5, .int .i64 6, .int .i64 0] 3, pt b3 #[.int .i64 3, .int .i64 0, .int .i64 4] 3, pt b1 #[.int .i64 0, .int .i64 1, .int .i64 2] 3] _ := hM
 refine S.storeA (k := 0) hA hM sz25 rfl rfl rfl rfl rfl rfl ?_; clear hM
 intro w6 hM
 replace hM : Mem _ _ [pt b9 #[.int .i64 3, .int .i64 3, .int .i64 0, .slice none 0 0, .slice none 0 0, .slice (some ⟨b7, 0, none⟩) 3 3] 25, pt b7 #[.slice (some ⟨b1, 0, none⟩) 3 3, .slice (some ⟨b3, 0, none⟩) 3 3, .slice (some ⟨b5, 0, none⟩) 3 3] 22, pt b5 #[.int .i64 5, .int .i64 6, .int .i64 0] 3, pt b3 #[.int .i64 3, .int .i64 0, .int .i64 4] 3, pt b1 #[.int .i64 0, .int .i64 1, .int .i64 2] 3] _ := hM
 refine S.done ?_
 have q0 := hM.ptRs (k := 4) (X := ([0, 1, 2] : List Int)) rfl (by decide)
 have q1 := hM.ptRs (k := 3) (X := ([3, 0, 4] : List Int)) rfl (by decide)
 have q2 := hM.ptRs (k := 2) (X := ([5, 6, 0] : List Int)) rfl (by decide)
 have hv5 := rows3 (hM.block (k := 1) rfl) q0 q1 q2
 have hv3 := IntSl.nil w6
 have hv4 := IntSl.nil w6
 replace hM : Mem _ _ [pt b9 #[.int .i64 iV.kind, .int .i64 iV.n, .int .i64 iV.cap, .slice none iV.wt.length 0, .slice none iV.vl.length 0, .slice ((some ⟨b7, 0, none⟩)) iV.cost.length 3] 25, pt b7 #[.slice (some ⟨b1, 0, none⟩) 3 3, .slice (some ⟨b3, 0, none⟩) 3 3, .slice (some ⟨b5, 0, none⟩) 3 3] 22, pt b5 #[.int .i64 5, .int .i64 6, .int .i64 0] 3, pt b3 #[.int .i64 3, .int .i64 0, .int .i64 4] 3, pt b1 #[.int .i64 0, .int .i64 1, .int .i64 2] 3] _ := hM
 replace hM := hM.drop 4
 replace hM := hM.drop 3
 replace hM := hM.drop 2
 replace hM := hM.drop 1
 replace hM : Mem _ _ [pt b9 #[.int .i64 iV.kind, .int .i64 iV.n, .int .i64 iV.cap, .slice none iV.wt.length 0, .slice none iV.vl.length 0, .slice ((some ⟨b7, 0, none⟩)) iV.cost.length 3] 25] _ := hM
 have hbx11 := hM.block (k := 0) rfl
 have hbs := hbs.trans (hM.below.mono hbs.size)
 replace hM := Mem.start w6
 refine Ends.seq (Ends.region ?_)
 refine S.val hA (R.loadA sz25 rfl (hM.oldRange hbx11) rfl) rfl ?_; clear hA a; intro a hA
 refine S.buildSl (cells := #[.int .i64 0, .int .i64 2, .int .i64 1]) hA hM Try.underlying22 info3 rfl rfl rfl rfl (by kernel_rfl) rfl ?_; clear hA hM a; intro b12 w7 hb13 hM a hA
 replace hM : Mem _ _ [pt b12 #[.int .i64 0, .int .i64 2, .int .i64 1] 3] _ := hM
 have hq8 := hM.ptRs (k := 0) (X := ([0, 2, 1] : List Int)) rfl (by decide)
 refine S.call hA (R.callF Try.func17 rfl rfl rfl) rfl (cost_vw none 0 none 0 ((some ⟨b7, 0, none⟩)) 3 (some ⟨b12, 0, none⟩) 3 _ (hv3.mem hM) (hv4.mem hM) (hv5.mem hM) hq8) ?_; clear hA a
 rintro e w8 ⟨rfl, hb⟩
 replace hM := hM.callB hb; clear hb
 refine ⟨.tuple #[.int .i64 11, .int .i64 0], rfl, fun a hA => ?_⟩
 refine S.val hA (R.move rfl) rfl ?_; clear hA a; intro a hA
 refine S.val hA (R.extract (v := .int .i64 11) rfl rfl) rfl ?_; clear hA a; intro a hA
 refine S.val hA (R.extract (v := .int .i64 0) rfl rfl) rfl ?_; clear hA a; intro a hA
 refine S.val hA (R.assign rfl) rfl ?_; clear hA a; intro a hA
 refine S.val hA (R.assign rfl) rfl ?_; clear hA a; intro a hA
 refine S.done ?_
 replace hA : St 40 [(1, _), (2, _), (3, _)] a := hA.sub ((.cons rfl (.cons rfl (.cons rfl .nil))))
 refine Ends.seq (Ends.region ?_)
 refine S.val hA (R.loadA sz25 rfl (hM.oldRange hbx11) rfl) rfl ?_; clear hA a; intro a hA
 refine S.call hA (R.callF Try.func14 rfl rfl rfl) rfl (plain_vw none 0 none 0 ((some ⟨b7, 0, none⟩)) 3 _ (hv3.mem hM) (hv4.mem hM) (hv5.mem hM)) ?_; clear hA a
 rintro e w9 ⟨ra14, rc15, rfl, rh16, hb⟩
 replace hM := hM.callB hb; clear hb
 have hbx17 := hM.block (k := 0) rfl
 have hbs := hbs.trans (hM.below.mono hbs.size)
 have hv3 := hv3.mem hM
 have hv4 := hv4.mem hM
 have hv5 := hv5.mem hM
 have hbx11 := hM.keepB hbx11
 replace hM := Mem.start w9
 refine ⟨.slice ra14 ((([0, 1, 2] : List Int)).length) rc15, rfl, fun a hA => ?_⟩
 refine S.val hA (R.assign rfl) rfl ?_; clear hA a; intro a hA
 refine S.done ?_
 refine Ends.seq (Ends.region ?_)
 refine S.val hA (R.move rfl) rfl ?_; clear hA a; intro a hA
 refine S.val hA (R.tt (R.eql rfl rfl) (by first | decide | simp | omega)) rfl ?_; clear hA a; intro a hA
 refine S.val hA (R.move rfl) rfl ?_; clear hA a; intro a hA
 refine S.valg (dj := 20) hA (by kernel_rfl) rfl (R.move rfl) rfl ?_; clear hA a; intro a hA
 refine S.valg (dj := 20) hA (by kernel_rfl) rfl (R.tt (R.eql rfl rfl) (by first | decide | simp | omega)) rfl ?_; clear hA a; intro a hA
 refine S.val hA (R.pickT rfl rfl) rfl ?_; clear hA a; intro a hA
 refine S.val hA (R.move rfl) rfl ?_; clear hA a; intro a hA
 refine S.valg (dj := 24) hA (by kernel_rfl) rfl (R.move rfl) rfl ?_; clear hA a; intro a hA
 refine S.valg (dj := 24) hA (by kernel_rfl) rfl (R.lenS Try.underlying22 rfl rfl) rfl ?_; clear hA a; intro a hA
 refine S.valg (dj := 24) hA (by kernel_rfl) rfl (R.tt (R.eql rfl rfl) (by rfl)) rfl ?_; clear hA a; intro a hA
 refine S.val hA (R.pickT rfl rfl) rfl ?_; clear hA a; intro a hA
 refine S.val hA (R.move rfl) rfl ?_; clear hA a; intro a hA
 refine S.valg (dj := 29) hA (by kernel_rfl) rfl (R.move rfl) rfl ?_; clear hA a; intro a hA
 refine S.valg (dj := 29) hA (by kernel_rfl) rfl (R.idxI rh16 (j := 2) sl22 rfl rfl (by first | omega | decide) (rfl)) rfl ?_; clear hA a; intro a hA
 refine S.valg (dj := 29) hA (by kernel_rfl) rfl (R.loadI (rh16.mem hM) sz3 rfl (by first | omega | decide)) rfl ?_; clear hA a; intro a hA
 refine S.valg (dj := 29) hA (by kernel_rfl) rfl (R.tt (R.eql rfl rfl) (by rfl)) rfl ?_; clear hA a; intro a hA
 refine S.val hA (R.pickT rfl rfl) rfl ?_; clear hA a; intro a hA
 refine S.val hA (R.move rfl) rfl ?_; clear hA a; intro a hA
 refine S.valg (dj := 35) hA (by kernel_rfl) rfl (R.loadA sz25 rfl (hM.oldRange hbx11) rfl) rfl ?_; clear hA a; intro a hA
 refine S.callg (dj := 35) hA (by kernel_rfl) rfl (R.callF Try.func18 rfl rfl rfl) rfl (tot_vw none 0 none 0 ((some ⟨b7, 0, none⟩)) 3 _ (hv3.mem hM) (hv4.mem hM) (hv5.mem hM)) ?_; clear hA a
 rintro e w10 ⟨rfl, hb⟩
 replace hM := hM.callB hb; clear hb
 refine ⟨.int .i64 12, rfl, fun a hA => ?_⟩
 refine S.valg (dj := 35) hA (by kernel_rfl) rfl (R.tt (R.eql rfl rfl) (by first | decide | simp | omega)) rfl ?_; clear hA a; intro a hA
 refine S.val hA (R.pickT rfl rfl) rfl ?_; clear hA a; intro a hA
 refine S.val hA (R.assign rfl) rfl ?_; clear hA a; intro a hA
 refine S.done ?_
 replace hA : St 40 [(0, _)] a := hA.sub ((.cons rfl .nil))
 refine Ends.ret1 Try.func16 Try.results16 hA rfl ?_
 exact ⟨rfl, Mem.trans0 hbs hM.nilL⟩
set_option maxRecDepth 100000 in
set_option maxHeartbeats 400000 in
theorem valuePlain_w (i : Ins) (ax3 : Option Addr) (cx3 : Nat) (ax4 : Option Addr) (cx4 : Nat) (ax5 : Option Addr) (cx5 : Nat) (w : World) (hx3 : IntSl w (.slice ax3 i.wt.length cx3) i.wt) (hx4 : IntSl w (.slice ax4 i.vl.length cx4) i.vl) (hx5 : RowsV w (.slice ax5 i.cost.length cx5) i.cost) :
  Calls Try.prog 3 #[.agg #[.int .i64 i.kind, .int .i64 i.n, .int .i64 i.cap, .slice ax3 i.wt.length cx3, .slice ax4 i.vl.length cx4, .slice ax5 i.cost.length cx5]] w fun e w' => e = .returned (.bool true) ∧ Below w.heap.size w w' := by
 have hbs := Below.refl (B := w.heap.size) w
 have hM := Mem.start w
 refine Calls.of_ends (vs := [.agg #[.int .i64 i.kind, .int .i64 i.n, .int .i64 i.cap, .slice ax3 i.wt.length cx3, .slice ax4 i.vl.length cx4, .slice ax5 i.cost.length cx5]]) Try.func3 rfl Try.ntmps3 rfl ?_
 intro a hA
 replace hA : St 77 [(0, _)] a := hA
 refine Ends.seq (Ends.region ?_)
 refine S.box hA hM rfl rfl ?_; clear hA hM a; intro b1 w1 hb2 hM a hA
 replace hM : Mem _ _ [pt b1 #[.int .i64 i.kind, .int .i64 i.n, .int .i64 i.cap, .slice ax3 i.wt.length cx3, .slice ax4 i.vl.length cx4, .slice ax5 i.cost.length cx5] 25] _ := hM
 refine S.val hA (R.assign rfl) rfl ?_; clear hA a; intro a hA
 refine S.done ?_
 refine Ends.seq (Ends.region ?_)
 refine S.val hA (R.loadA sz25 rfl (hM.range (k := 0) rfl) rfl) rfl ?_; clear hA a; intro a hA
 obtain ⟨G, hGy⟩ : ∃ G, G = cutI i := ⟨_, rfl⟩
 have hsmy : smallI G := by rw [hGy]; exact cutI_small _
 have hscy := cutI_of_small hsmy
 have hsy1 := hsmy.1
 have hsy2 := hsmy.2.1
 have hsy3 := hsmy.2.2.1
 refine S.call hA (R.callF Try.func13 rfl rfl rfl) rfl (copyG i ax3 cx3 ax4 cx4 ax5 cx5 G hGy _ (hx3.mem hM) (hx4.mem hM) (hx5.mem hM)) ?_; clear hA a
 rintro e w2 ⟨ay3, cy3, ay4, cy4, ay5, cy5, rsy, rfl, hYy, hn⟩
 replace hM : Mem _ _ [bundle (insL 3 22 G ay3 cy3 ay4 cy4 ay5 cy5 rsy), pt b1 #[.int .i64 i.kind, .int .i64 i.n, .int .i64 i.cap, .slice ax3 i.wt.length cx3, .slice ax4 i.vl.length cx4, .slice ax5 i.cost.length cx5] 25] _ := hM.call hn; clear hn
 refine ⟨.agg #[.int .i64 G.kind, .int .i64 G.n, .int .i64 G.cap, .slice ay3 G.wt.length cy3, .slice ay4 G.vl.length cy4, .slice ay5 rsy.length cy5], rfl, fun a hA => ?_⟩
 refine S.storeA (k := 1) hA hM sz25 rfl rfl rfl rfl rfl rfl ?_; clear hM
 intro w3 hM
 replace hM : Mem _ _ [bundle (insL 3 22 G ay3 cy3 ay4 cy4 ay5 cy5 rsy), pt b1 #[.int .i64 G.kind, .int .i64 G.n, .int .i64 G.cap, .slice ay3 G.wt.length cy3, .slice ay4 G.vl.length cy4, .slice ay5 rsy.length cy5] 25] _ := hM
 refine S.done ?_
 replace hA : St 77 [(1, _)] a := hA.sub ((.cons rfl .nil))
 refine Ends.seq ?_
 obtain ⟨-, hy3, hy4, hy5⟩ := insR_of hM (k := 0) rfl hYy
 have hlcy : rsy.length = G.cost.length := by rw [← hYy, List.length_map]
 replace hM := hM.drop 0
 rw [hlcy] at hM
 replace hM : Mem _ _ [pt b1 #[.int .i64 G.kind, .int .i64 G.n, .int .i64 G.cap, .slice ay3 G.wt.length cy3, .slice ay4 G.vl.length cy4, .slice ay5 G.cost.length cy5] 25] _ := hM
 have hbx3 := hM.block (k := 0) rfl
 have hbs := hbs.trans (hM.below.mono hbs.size)
 have hx3 := hx3.mem hM
 have hx4 := hx4.mem hM
 have hx5 := hx5.mem hM
 replace hM := Mem.start w3
 refine Ends.region ?_
 refine S.val hA (R.loadA sz25 rfl (hM.oldRange hbx3) rfl) rfl ?_; clear hA a; intro a hA
 refine S.call hA (R.callF Try.func14 rfl rfl rfl) rfl (plain08 G ay3 cy3 ay4 cy4 ay5 cy5 ⟨by omega, by omega⟩ _ (hy3.mem hM) (hy4.mem hM) (hy5.mem hM)) ?_; clear hA a
 rintro e w4 ⟨ra4, rc5, rfl, rh6, hb⟩
 replace hM := hM.callB hb; clear hb
 have hbs := hbs.trans (hM.below.mono hbs.size)
 have hx3 := hx3.mem hM
 have hx4 := hx4.mem hM
 have hx5 := hx5.mem hM
 have hy3 := hy3.mem hM
 have hy4 := hy4.mem hM
 have hy5 := hy5.mem hM
 have hbx3 := hM.keepB hbx3
 replace hM := Mem.start w4
 refine ⟨.slice ra4 (((plnI G)).length) rc5, rfl, fun a hA => ?_⟩
 refine S.val hA (R.assign rfl) rfl ?_; clear hA a; intro a hA
 refine S.done ?_
 refine Ends.seq (Ends.seq (Ends.region ?_))
 refine S.val hA (R.loadA sz25 rfl (hM.oldRange hbx3) rfl) rfl ?_; clear hA a; intro a hA
 refine S.call hA (R.callF Try.func15 rfl rfl rfl) rfl (rcheck05 G ay3 cy3 ay4 cy4 ay5 cy5 _ (hy3.mem hM) (hy4.mem hM) (hy5.mem hM)) ?_; clear hA a
 rintro e w5 ⟨rfl, hb⟩
 replace hM := hM.callB hb; clear hb
 refine ⟨.int .i64 (chk G), rfl, fun a hA => ?_⟩
 refine S.val hA (R.neq rfl rfl) rfl ?_; clear hA a; intro a hA
 refine S.done ?_
 replace hA : St 77 [(1, _), (3, _), (13, _)] a := hA.sub ((.cons rfl (.cons rfl (.cons rfl .nil))))
 refine Ends.ite hA rfl (fun hc7 => ?_) (fun hc7 => ?_)
 ·
  have hz : ¬ chk G = 0 := hc7
  have hpn := pln_no hz
  have hp0 : (plnI G).length = 0 := by rw [hpn]; rfl
  refine Ends.seq (Ends.region ?_)
  refine S.call hA (R.callF Try.func16 rfl rfl rfl) rfl (values_any _) ?_; clear hA a
  rintro e w6 ⟨rfl, hb⟩
  replace hM := hM.callB hb; clear hb
  refine ⟨.bool true, rfl, fun a hA => ?_⟩
  refine S.val hA (R.move rfl) rfl ?_; clear hA a; intro a hA
  refine S.valg (dj := 15) hA (by kernel_rfl) rfl (R.move rfl) rfl ?_; clear hA a; intro a hA
  refine S.valg (dj := 15) hA (by kernel_rfl) rfl (R.lenS Try.underlying22 rfl rfl) rfl ?_; clear hA a; intro a hA
  refine S.valg (dj := 15) hA (by kernel_rfl) rfl (R.tt (R.eql rfl rfl) (by omega)) rfl ?_; clear hA a; intro a hA
  refine S.val hA (R.pickT rfl rfl) rfl ?_; clear hA a; intro a hA
  refine S.val hA (R.assign rfl) rfl ?_; clear hA a; intro a hA
  refine S.done ?_
  replace hA : St 77 [(1, _), (2, _), (3, _)] a := hA.sub ((.cons rfl (.cons rfl (.cons rfl .nil))))
  refine Ends.ret1 Try.func3 Try.results3 hA rfl ?_
  exact ⟨rfl, Mem.trans0 hbs hM.nilL⟩
 ·
  have hz : chk G = 0 := Decidable.not_not.1 hc7
  have hF := chk_inF hz
  have hn1 := hF.n1
  have hn64 := hF.n64
  have hpl := pln_len hz
  have hpc := pln_cost hz
  have hcb := cost_bd G (plnI G)
  have hct := cost_tot (i := G) (plnI G)
  refine Ends.skip (Ends.seq (Ends.region ?_))
  refine S.val hA (R.loadA sz25 rfl (hM.oldRange hbx3) rfl) rfl ?_; clear hA a; intro a hA
  refine S.val hA (R.move rfl) rfl ?_; clear hA a; intro a hA
  refine S.call hA (R.callF Try.func17 rfl rfl rfl) rfl (cost08 G ay3 cy3 ay4 cy4 ay5 cy5 ra4 ((plnI G)) rc5 ⟨by omega, by omega⟩ _ (hy3.mem hM) (hy4.mem hM) (hy5.mem hM) (rh6.mem hM)) ?_; clear hA a
  rintro e w7 ⟨rfl, hb⟩
  replace hM := hM.callB hb; clear hb
  refine ⟨.tuple #[.int .i64 ((costI G ((plnI G))).1), .int .i64 ((costI G ((plnI G))).2)], rfl, fun a hA => ?_⟩
  refine S.val hA (R.move rfl) rfl ?_; clear hA a; intro a hA
  refine S.val hA (R.extract (v := .int .i64 ((costI G ((plnI G))).1)) rfl rfl) rfl ?_; clear hA a; intro a hA
  refine S.val hA (R.extract (v := .int .i64 ((costI G ((plnI G))).2)) rfl rfl) rfl ?_; clear hA a; intro a hA
  refine S.val hA (R.assign rfl) rfl ?_; clear hA a; intro a hA
  refine S.val hA (R.assign rfl) rfl ?_; clear hA a; intro a hA
  refine S.done ?_
  replace hA : St 77 [(1, _), (3, _), (4, _), (5, _)] a := hA.sub ((.cons rfl (.cons rfl (.cons rfl (.cons rfl .nil)))))
  refine Ends.seq (Ends.seq (Ends.region ?_))
  refine S.val hA (R.assign rfl) rfl ?_; clear hA a; intro a hA
  refine S.done ?_
  refine Ends.block ?_
  refine Ends.loop (σ := Nat) (fun k (a : Act) (wv : World) => St 77 [(1, .pointer (some ⟨b1, 0, none⟩)), (3, .slice ra4 (((plnI G)).length) rc5), (4, .int .i64 ((costI G ((plnI G))).1)), (5, .int .i64 ((costI G ((plnI G))).2)), (6, .int .i64 ((k : Int)))] a ∧ Mem w4 nof [] wv ∧ (k ≤ (plnI G).length)) (fun k => (plnI G).length - k) 0 ⟨hA.sub ((.cons rfl (.cons rfl (.cons rfl (.cons rfl (.cons rfl .nil)))))), hM, (Nat.zero_le _)⟩ ?_
  clear hA hM a
  rintro k a w8 ⟨hA, hM, hk⟩ hNext
  refine Ends.seq (Ends.seq (Ends.region ?_))
  refine S.val hA (R.move rfl) rfl ?_; clear hA a; intro a hA
  refine S.val hA (R.move rfl) rfl ?_; clear hA a; intro a hA
  refine S.val hA (R.lenS Try.underlying22 rfl rfl) rfl ?_; clear hA a; intro a hA
  refine S.val hA (R.lss rfl rfl) rfl ?_; clear hA a; intro a hA
  refine S.done ?_
  refine Ends.ite hA rfl (fun hc8 => ?_) (fun hc8 => ?_)
  ·
   refine Ends.skip (Ends.seq (Ends.block (Ends.seq ?_)))
   refine Ends.cut (fun (a : Act) (wv : World) => St 77 [(1, .pointer (some ⟨b1, 0, none⟩)), (3, .slice ra4 (((plnI G)).length) rc5), (4, .int .i64 ((costI G ((plnI G))).1)), (5, .int .i64 ((costI G ((plnI G))).2)), (6, .int .i64 ((k : Int))), (54, .bool (decide (((G.kind = 1 ∧ (((plnI G)).getD k 0) ≠ 0) ∨ (G.kind ≠ 1 ∧ (((plnI G)).getD k 0) ≠ ((k : Int)))))))] a ∧ Mem w4 nof [] wv) ?_ (fun k2 hJ => ?_)
   ·
    clear hA hM a; rintro a w9 ⟨hA, hM⟩
    refine Ends.ite hA rfl (fun hc9 => ?_) (fun hc9 => ?_)
    · have h9 := pln_get hz (q := k) (by omega); split at h9 <;> omega
    ·
     refine Ends.skip (Ends.inBlock (Ends.region ?_))
     refine S.val hA (R.move rfl) rfl ?_; clear hA a; intro a hA
     refine S.val hA (R.addI rfl rfl (r := ((k : Int)) + 1) rfl (by omega)) rfl ?_; clear hA a; intro a hA
     refine S.val hA (R.assign rfl) rfl ?_; clear hA a; intro a hA
     refine S.done ?_
     exact hNext ((k + 1)) _ _ ((by show (plnI G).length - (k + 1) < (plnI G).length - k; omega)) ⟨hA.sub ((.cons rfl (.cons rfl (.cons rfl (.cons rfl (.cons rfl .nil)))))), hM, (by omega)⟩
   ·
    refine Ends.region ?_
    refine S.val hA (R.fieldAddr (q := 0) fi25_0 rfl rfl rfl) rfl ?_; clear hA a; intro a hA
    refine S.val hA (R.load sz3 rfl (hM.cellB hbx3 rfl)) rfl ?_; clear hA a; intro a hA
    refine S.val hA (R.eql rfl rfl) rfl ?_; clear hA a; intro a hA
    refine S.val hA (R.move rfl) rfl ?_; clear hA a; intro a hA
    refine hA.split (d := 35) rfl ?_ ?_
    ·
     clear hA; intro hg10 hA
     refine S.valg (dj := 35) hA (by kernel_rfl) rfl (R.move rfl) rfl ?_; clear hA a; intro a hA
     refine S.valg (dj := 35) hA (by kernel_rfl) rfl (R.move rfl) rfl ?_; clear hA a; intro a hA
     refine S.valg (dj := 35) hA (by kernel_rfl) rfl (R.idxI rh6 (j := k) sl22 rfl rfl (by omega) (rfl)) rfl ?_; clear hA a; intro a hA
     refine S.valg (dj := 35) hA (by kernel_rfl) rfl (R.loadI (rh6.mem hM) sz3 rfl (by omega)) rfl ?_; clear hA a; intro a hA
     refine S.valg (dj := 35) hA (by kernel_rfl) rfl (R.neq rfl rfl) rfl ?_; clear hA a; intro a hA
     refine S.val hA (R.pickT rfl rfl) rfl ?_; clear hA a; intro a hA
     refine S.val hA (R.move rfl) rfl ?_; clear hA a; intro a hA
     refine hA.split (d := 42) rfl ?_ ?_
     ·
      clear hA; intro hg11 hA
      refine S.no (dj := 42) hA (by kernel_rfl) rfl rfl rfl ?_; clear hA a; intro a hA
      refine S.no (dj := 42) hA (by kernel_rfl) rfl rfl rfl ?_; clear hA a; intro a hA
      refine S.no (dj := 42) hA (by kernel_rfl) rfl rfl rfl ?_; clear hA a; intro a hA
      refine S.no (dj := 42) hA (by kernel_rfl) rfl rfl rfl ?_; clear hA a; intro a hA
      refine S.noU (dj := 46) hA (by kernel_rfl) rfl rfl ?_; clear hA a; intro a hA
      refine S.noU (dj := 46) hA (by kernel_rfl) rfl rfl ?_; clear hA a; intro a hA
      refine S.noU (dj := 46) hA (by kernel_rfl) rfl rfl ?_; clear hA a; intro a hA
      refine S.noU (dj := 46) hA (by kernel_rfl) rfl rfl ?_; clear hA a; intro a hA
      refine S.noU (dj := 46) hA (by kernel_rfl) rfl rfl ?_; clear hA a; intro a hA
      refine S.noU (dj := 46) hA (by kernel_rfl) rfl rfl ?_; clear hA a; intro a hA
      refine S.no (dj := 42) hA (by kernel_rfl) rfl rfl rfl ?_; clear hA a; intro a hA
      refine S.val hA (R.pickT rfl rfl) rfl ?_; clear hA a; intro a hA
      refine S.done ?_
      replace hA : St 77 [(1, _), (3, _), (4, _), (5, _), (6, _), (54, _)] a := hA.sub ((.cons rfl (.cons rfl (.cons rfl (.cons rfl (.cons rfl (.cons rfl .nil)))))))
      exact hJ _ _ ⟨hA.sub (.cons rfl (.cons rfl (.cons rfl (.cons rfl (.cons rfl (.cons (by first | rfl | exact congrArg (fun b => some (Value.bool b)) (by first | exact decide_eq_decide.2 (by omega) | exact or_bool (by omega) | exact and_bool (by omega) | (simp; done) | (simp [hg10, hg11]; done) | (have h80 := hg10; (try simp at h80); have h81 := hg11; (try simp at h81); simp [h80, h81]; done) | exact (decide_eq_false (fun h9 => hg10 h9.1)).symm | exact (decide_eq_false (fun h9 => hg11 h9.1)).symm)) .nil)))))), hM⟩
     ·
      clear hA; intro hg11 hA
      refine S.valg (dj := 42) hA (by kernel_rfl) rfl (R.fieldAddr (q := 0) fi25_0 rfl rfl rfl) rfl ?_; clear hA a; intro a hA
      refine S.valg (dj := 42) hA (by kernel_rfl) rfl (R.load sz3 rfl (hM.cellB hbx3 rfl)) rfl ?_; clear hA a; intro a hA
      refine S.valg (dj := 42) hA (by kernel_rfl) rfl (R.neq rfl rfl) rfl ?_; clear hA a; intro a hA
      refine S.valg (dj := 42) hA (by kernel_rfl) rfl (R.move rfl) rfl ?_; clear hA a; intro a hA
      refine hA.split (d := 46) rfl ?_ ?_
      ·
       clear hA; intro hg12 hA
       refine S.valg (dj := 46) hA (by kernel_rfl) rfl (R.move rfl) rfl ?_; clear hA a; intro a hA
       refine S.valg (dj := 46) hA (by kernel_rfl) rfl (R.move rfl) rfl ?_; clear hA a; intro a hA
       refine S.valg (dj := 46) hA (by kernel_rfl) rfl (R.idxI rh6 (j := k) sl22 rfl rfl (by omega) (rfl)) rfl ?_; clear hA a; intro a hA
       refine S.valg (dj := 46) hA (by kernel_rfl) rfl (R.loadI (rh6.mem hM) sz3 rfl (by omega)) rfl ?_; clear hA a; intro a hA
       refine S.valg (dj := 46) hA (by kernel_rfl) rfl (R.move rfl) rfl ?_; clear hA a; intro a hA
       refine S.valg (dj := 46) hA (by kernel_rfl) rfl (R.neq rfl rfl) rfl ?_; clear hA a; intro a hA
       refine S.valg (dj := 42) hA (by kernel_rfl) rfl (R.pickT rfl rfl) rfl ?_; clear hA a; intro a hA
       refine S.val hA (R.pickF rfl rfl) rfl ?_; clear hA a; intro a hA
       refine S.done ?_
       replace hA : St 77 [(1, _), (3, _), (4, _), (5, _), (6, _), (54, _)] a := hA.sub ((.cons rfl (.cons rfl (.cons rfl (.cons rfl (.cons rfl (.cons rfl .nil)))))))
       exact hJ _ _ ⟨hA.sub (.cons rfl (.cons rfl (.cons rfl (.cons rfl (.cons rfl (.cons (by first | rfl | exact congrArg (fun b => some (Value.bool b)) (by first | exact decide_eq_decide.2 (by omega) | exact or_bool (by omega) | exact and_bool (by omega) | (simp; done) | (simp [hg10, hg11, hg12]; done) | (have h80 := hg10; (try simp at h80); have h81 := hg11; (try simp at h81); have h82 := hg12; (try simp at h82); simp [h80, h81, h82]; done) | exact (decide_eq_false (fun h9 => hg10 h9.1)).symm | exact (decide_eq_false (fun h9 => hg11 h9.1)).symm | exact (decide_eq_false (fun h9 => hg12 h9.1)).symm)) .nil)))))), hM⟩
      ·
       clear hA; intro hg12 hA
       refine S.no (dj := 46) hA (by kernel_rfl) rfl rfl rfl ?_; clear hA a; intro a hA
       refine S.no (dj := 46) hA (by kernel_rfl) rfl rfl rfl ?_; clear hA a; intro a hA
       refine S.no (dj := 46) hA (by kernel_rfl) rfl rfl rfl ?_; clear hA a; intro a hA
       refine S.no (dj := 46) hA (by kernel_rfl) rfl rfl rfl ?_; clear hA a; intro a hA
       refine S.no (dj := 46) hA (by kernel_rfl) rfl rfl rfl ?_; clear hA a; intro a hA
       refine S.no (dj := 46) hA (by kernel_rfl) rfl rfl rfl ?_; clear hA a; intro a hA
       refine S.valg (dj := 42) hA (by kernel_rfl) rfl (R.pickF rfl rfl) rfl ?_; clear hA a; intro a hA
       refine S.val hA (R.pickF rfl rfl) rfl ?_; clear hA a; intro a hA
       refine S.done ?_
       replace hA : St 77 [(1, _), (3, _), (4, _), (5, _), (6, _), (54, _)] a := hA.sub ((.cons rfl (.cons rfl (.cons rfl (.cons rfl (.cons rfl (.cons rfl .nil)))))))
       exact hJ _ _ ⟨hA.sub (.cons rfl (.cons rfl (.cons rfl (.cons rfl (.cons rfl (.cons (by first | rfl | exact congrArg (fun b => some (Value.bool b)) (by first | exact decide_eq_decide.2 (by omega) | exact or_bool (by omega) | exact and_bool (by omega) | (simp; done) | (simp [hg10, hg11, hg12]; done) | (have h80 := hg10; (try simp at h80); have h81 := hg11; (try simp at h81); have h82 := hg12; (try simp at h82); simp [h80, h81, h82]; done) | exact (decide_eq_false (fun h9 => hg10 h9.1)).symm | exact (decide_eq_false (fun h9 => hg11 h9.1)).symm | exact (decide_eq_false (fun h9 => hg12 h9.1)).symm)) .nil)))))), hM⟩
    ·
     clear hA; intro hg10 hA
     refine S.no (dj := 35) hA (by kernel_rfl) rfl rfl rfl ?_; clear hA a; intro a hA
     refine S.no (dj := 35) hA (by kernel_rfl) rfl rfl rfl ?_; clear hA a; intro a hA
     refine S.no (dj := 35) hA (by kernel_rfl) rfl rfl rfl ?_; clear hA a; intro a hA
     refine S.no (dj := 35) hA (by kernel_rfl) rfl rfl rfl ?_; clear hA a; intro a hA
     refine S.no (dj := 35) hA (by kernel_rfl) rfl rfl rfl ?_; clear hA a; intro a hA
     refine S.val hA (R.pickF rfl rfl) rfl ?_; clear hA a; intro a hA
     refine S.val hA (R.move rfl) rfl ?_; clear hA a; intro a hA
     refine S.valg (dj := 42) hA (by kernel_rfl) rfl (R.fieldAddr (q := 0) fi25_0 rfl rfl rfl) rfl ?_; clear hA a; intro a hA
     refine S.valg (dj := 42) hA (by kernel_rfl) rfl (R.load sz3 rfl (hM.cellB hbx3 rfl)) rfl ?_; clear hA a; intro a hA
     refine S.valg (dj := 42) hA (by kernel_rfl) rfl (R.neq rfl rfl) rfl ?_; clear hA a; intro a hA
     refine S.valg (dj := 42) hA (by kernel_rfl) rfl (R.move rfl) rfl ?_; clear hA a; intro a hA
     refine hA.split (d := 46) rfl ?_ ?_
     ·
      clear hA; intro hg13 hA
      refine S.valg (dj := 46) hA (by kernel_rfl) rfl (R.move rfl) rfl ?_; clear hA a; intro a hA
      refine S.valg (dj := 46) hA (by kernel_rfl) rfl (R.move rfl) rfl ?_; clear hA a; intro a hA
      refine S.valg (dj := 46) hA (by kernel_rfl) rfl (R.idxI rh6 (j := k) sl22 rfl rfl (by omega) (rfl)) rfl ?_; clear hA a; intro a hA
      refine S.valg (dj := 46) hA (by kernel_rfl) rfl (R.loadI (rh6.mem hM) sz3 rfl (by omega)) rfl ?_; clear hA a; intro a hA
      refine S.valg (dj := 46) hA (by kernel_rfl) rfl (R.move rfl) rfl ?_; clear hA a; intro a hA
      refine S.valg (dj := 46) hA (by kernel_rfl) rfl (R.neq rfl rfl) rfl ?_; clear hA a; intro a hA
      refine S.valg (dj := 42) hA (by kernel_rfl) rfl (R.pickT rfl rfl) rfl ?_; clear hA a; intro a hA
      refine S.val hA (R.pickF rfl rfl) rfl ?_; clear hA a; intro a hA
      refine S.done ?_
      replace hA : St 77 [(1, _), (3, _), (4, _), (5, _), (6, _), (54, _)] a := hA.sub ((.cons rfl (.cons rfl (.cons rfl (.cons rfl (.cons rfl (.cons rfl .nil)))))))
      exact hJ _ _ ⟨hA.sub (.cons rfl (.cons rfl (.cons rfl (.cons rfl (.cons rfl (.cons (by first | rfl | exact congrArg (fun b => some (Value.bool b)) (by first | exact decide_eq_decide.2 (by omega) | exact or_bool (by omega) | exact and_bool (by omega) | (simp; done) | (simp [hg10, hg13]; done) | (have h80 := hg10; (try simp at h80); have h81 := hg13; (try simp at h81); simp [h80, h81]; done) | exact (decide_eq_false (fun h9 => hg10 h9.1)).symm | exact (decide_eq_false (fun h9 => hg13 h9.1)).symm)) .nil)))))), hM⟩
     ·
      clear hA; intro hg13 hA
      refine S.no (dj := 46) hA (by kernel_rfl) rfl rfl rfl ?_; clear hA a; intro a hA
      refine S.no (dj := 46) hA (by kernel_rfl) rfl rfl rfl ?_; clear hA a; intro a hA
      refine S.no (dj := 46) hA (by kernel_rfl) rfl rfl rfl ?_; clear hA a; intro a hA
      refine S.no (dj := 46) hA (by kernel_rfl) rfl rfl rfl ?_; clear hA a; intro a hA
      refine S.no (dj := 46) hA (by kernel_rfl) rfl rfl rfl ?_; clear hA a; intro a hA
      refine S.no (dj := 46) hA (by kernel_rfl) rfl rfl rfl ?_; clear hA a; intro a hA
      refine S.valg (dj := 42) hA (by kernel_rfl) rfl (R.pickF rfl rfl) rfl ?_; clear hA a; intro a hA
      refine S.val hA (R.pickF rfl rfl) rfl ?_; clear hA a; intro a hA
      refine S.done ?_
      replace hA : St 77 [(1, _), (3, _), (4, _), (5, _), (6, _), (54, _)] a := hA.sub ((.cons rfl (.cons rfl (.cons rfl (.cons rfl (.cons rfl (.cons rfl .nil)))))))
      exact hJ _ _ ⟨hA.sub (.cons rfl (.cons rfl (.cons rfl (.cons rfl (.cons rfl (.cons (by first | rfl | exact congrArg (fun b => some (Value.bool b)) (by first | exact decide_eq_decide.2 (by omega) | exact or_bool (by omega) | exact and_bool (by omega) | (simp; done) | (simp [hg10, hg13]; done) | (have h80 := hg10; (try simp at h80); have h81 := hg13; (try simp at h81); simp [h80, h81]; done) | exact (decide_eq_false (fun h9 => hg10 h9.1)).symm | exact (decide_eq_false (fun h9 => hg13 h9.1)).symm)) .nil)))))), hM⟩
  ·
   refine Ends.exit rfl ?_
   replace hA : St 77 [(1, _), (3, _), (4, _), (5, _)] a := hA.sub ((.cons rfl (.cons rfl (.cons rfl (.cons rfl .nil)))))
   refine Ends.seq (Ends.region ?_)
   refine S.call hA (R.callF Try.func16 rfl rfl rfl) rfl (values_any _) ?_; clear hA a
   rintro e w10 ⟨rfl, hb⟩
   replace hM := hM.callB hb; clear hb
   refine ⟨.bool true, rfl, fun a hA => ?_⟩
   refine S.val hA (R.move rfl) rfl ?_; clear hA a; intro a hA
   refine S.valg (dj := 56) hA (by kernel_rfl) rfl (R.move rfl) rfl ?_; clear hA a; intro a hA
   refine S.valg (dj := 56) hA (by kernel_rfl) rfl (R.tt (R.eql rfl rfl) (hpc)) rfl ?_; clear hA a; intro a hA
   refine S.val hA (R.pickT rfl rfl) rfl ?_; clear hA a; intro a hA
   refine S.val hA (R.move rfl) rfl ?_; clear hA a; intro a hA
   refine S.valg (dj := 60) hA (by kernel_rfl) rfl (R.move rfl) rfl ?_; clear hA a; intro a hA
   refine S.valg (dj := 60) hA (by kernel_rfl) rfl (R.lenS Try.underlying22 rfl rfl) rfl ?_; clear hA a; intro a hA
   refine S.valg (dj := 60) hA (by kernel_rfl) rfl (R.fieldAddr (q := 1) fi25_1 rfl rfl rfl) rfl ?_; clear hA a; intro a hA
   refine S.valg (dj := 60) hA (by kernel_rfl) rfl (R.load sz3 rfl (hM.cellB hbx3 rfl)) rfl ?_; clear hA a; intro a hA
   refine S.valg (dj := 60) hA (by kernel_rfl) rfl (R.tt (R.eql rfl rfl) (by omega)) rfl ?_; clear hA a; intro a hA
   refine S.val hA (R.pickT rfl rfl) rfl ?_; clear hA a; intro a hA
   refine S.val hA (R.move rfl) rfl ?_; clear hA a; intro a hA
   refine S.valg (dj := 67) hA (by kernel_rfl) rfl (R.move rfl) rfl ?_; clear hA a; intro a hA
   refine S.valg (dj := 67) hA (by kernel_rfl) rfl (R.tt (R.geq rfl rfl) (by omega)) rfl ?_; clear hA a; intro a hA
   refine S.val hA (R.pickT rfl rfl) rfl ?_; clear hA a; intro a hA
   refine S.val hA (R.move rfl) rfl ?_; clear hA a; intro a hA
   refine S.valg (dj := 71) hA (by kernel_rfl) rfl (R.move rfl) rfl ?_; clear hA a; intro a hA
   refine S.valg (dj := 71) hA (by kernel_rfl) rfl (R.loadA sz25 rfl (hM.oldRange hbx3) rfl) rfl ?_; clear hA a; intro a hA
   refine S.callg (dj := 71) hA (by kernel_rfl) rfl (R.callF Try.func18 rfl rfl rfl) rfl (tot08 G ay3 cy3 ay4 cy4 ay5 cy5 ⟨by omega, by omega⟩ _ (hy3.mem hM) (hy4.mem hM) (hy5.mem hM)) ?_; clear hA a
   rintro e w11 ⟨rfl, hb⟩
   replace hM := hM.callB hb; clear hb
   refine ⟨.int .i64 (totI G), rfl, fun a hA => ?_⟩
   refine S.valg (dj := 71) hA (by kernel_rfl) rfl (R.tt (R.leq rfl rfl) (by omega)) rfl ?_; clear hA a; intro a hA
   refine S.val hA (R.pickT rfl rfl) rfl ?_; clear hA a; intro a hA
   refine S.val hA (R.assign rfl) rfl ?_; clear hA a; intro a hA
   refine S.done ?_
   replace hA : St 77 [(2, _)] a := hA.sub ((.cons rfl .nil))
   refine Ends.ret1 Try.func3 Try.results3 hA rfl ?_
   exact ⟨rfl, Mem.trans0 hbs hM.nilL⟩
theorem valuePlain_any (v : Value) (i : Ins) (w : World) (h1 : InsV w v i) (_h2 : wfI i) :
    Calls Try.prog 3 #[v] w fun e w' => e = .returned (.bool true) ∧ Below w.heap.size w w' := by
  obtain ⟨aw, cw, av, cv, ac, cc, rfl, h3, h4, h5⟩ := h1.parts
  exact valuePlain_w i aw cw av cv ac cc w h3 h4 h5
end Go.Proofs.Ytnikajkklocncaa
