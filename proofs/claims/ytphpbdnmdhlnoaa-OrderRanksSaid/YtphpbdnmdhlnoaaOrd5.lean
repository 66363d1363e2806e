/-
  Turning a part round, step by step; the next order and the ranks, as the programs find them. Plain Lean; nothing is assumed.
-/
import Derived.Test.YtphpbdnmdhlnoaaOrd2
import Derived.Test.YtphpbdnmdhlnoaaOrd4
namespace Go.Proofs.Ytphpbdnmdhlnoaa
theorem ext_getD {X Y : List Int} (hl : X.length = Y.length) (h : ∀ t, t < X.length → X.getD t 0 = Y.getD t 0) : X = Y :=
  List.ext_getElem hl fun t h1 h2 => by
    have := h t h1
    simpa [List.getD, h1, h2] using this
theorem getD_set (X : List Int) (i t : Nat) (v : Int) (hi : i < X.length) : (X.set i v).getD t 0 = if t = i then v else X.getD t 0 := by
  rw [List.getD_eq_getElem?_getD, List.getElem?_set]
  by_cases e : i = t
  · subst e; simp [hi]
  · rw [if_neg e, if_neg (fun h => e h.symm), List.getD_eq_getElem?_getD]
def swp (X : List Int) (i j : Nat) : List Int := (X.set i (X.getD j 0)).set j (X.getD i 0)
theorem swp_len (X : List Int) (i j : Nat) : (swp X i j).length = X.length := by simp [swp]
theorem swp_get {X : List Int} {i j t : Nat} (hi : i < X.length) (hj : j < X.length) : (swp X i j).getD t 0 = if t = j then X.getD i 0 else if t = i then X.getD j 0 else X.getD t 0 := by
  unfold swp
  rw [getD_set _ _ _ _ (by rw [List.length_set]; exact hj), getD_set _ _ _ _ hi]
/-- The part from o on, of m numbers, turned round at its ends, i of them. -/
def revI (X : List Int) (o m i : Nat) (t : Nat) : Int := if o ≤ t ∧ t < o + m ∧ (t < o + i ∨ o + m ≤ t + i) then X.getD (2 * o + m - 1 - t) 0 else X.getD t 0
theorem revI_zero (X : List Int) (o m t : Nat) : X.getD t 0 = revI X o m 0 t := by
  unfold revI; rw [if_neg (by omega)]
theorem revI_succ {X Z : List Int} {o m i : Nat} (hl : Z.length = X.length) (hom : o + m ≤ X.length) (hi : i + i + 1 < m) (h : ∀ t, Z.getD t 0 = revI X o m i t) (t : Nat) : (swp Z (o + i) (o + (m - 1 - i))).getD t 0 = revI X o m (i + 1) t := by
  rw [swp_get (by omega) (by omega), h, h, h]
  unfold revI
  by_cases e1 : t = o + (m - 1 - i)
  · rw [if_pos e1, if_neg (by omega), if_pos (by omega)]; congr 1; omega
  · rw [if_neg e1]
    by_cases e2 : t = o + i
    · rw [if_pos e2, if_neg (by omega), if_pos (by omega)]; congr 1; omega
    · rw [if_neg e2]
      by_cases e3 : o ≤ t ∧ t < o + m ∧ (t < o + i ∨ o + m ≤ t + i)
      · rw [if_pos e3, if_pos (by omega)]
      · rw [if_neg e3, if_neg (by omega)]
def revAt (X : List Int) (o m : Nat) : List Int := X.take o ++ ((X.drop o).take m).reverse ++ X.drop (o + m)
theorem revAt_len {X : List Int} {o m : Nat} (h : o + m ≤ X.length) : (revAt X o m).length = X.length := by
  simp only [revAt, List.length_append, List.length_take, List.length_reverse, List.length_drop]; omega
theorem revI_end {X Z : List Int} {o m i : Nat} (hl : Z.length = X.length) (hom : o + m ≤ X.length) (hi : ¬ i + i + 1 < m) (h : ∀ t, Z.getD t 0 = revI X o m i t) : Z = revAt X o m := by
  refine ext_getD (by rw [hl, revAt_len hom]) fun t ht => ?_
  rw [h]
  unfold revI revAt
  rw [hl] at ht
  simp only [List.getD_eq_getElem?_getD]
  have l1 : (X.take o).length = o := by rw [List.length_take]; omega
  have l2 : ((X.drop o).take m).length = m := by rw [List.length_take, List.length_drop]; omega
  by_cases c1 : t < o
  · rw [if_neg (by omega), List.append_assoc, List.getElem?_append_left (by omega), List.getElem?_take, if_pos c1]
  · by_cases c2 : t < o + m
    · have hv : (if o ≤ t ∧ t < o + m ∧ (t < o + i ∨ o + m ≤ t + i) then X[2 * o + m - 1 - t]?.getD 0 else X[t]?.getD 0) = X[2 * o + m - 1 - t]?.getD 0 := by
        split
        · rfl
        · congr 2; omega
      rw [hv, List.append_assoc, List.getElem?_append_right (by omega), l1, List.getElem?_append_left (by rw [List.length_reverse]; omega), List.getElem?_reverse (by omega), l2, List.getElem?_take, if_pos (by omega), List.getElem?_drop]
      congr 2; omega
    · rw [if_neg (by omega), List.getElem?_append_right (by rw [List.length_append, List.length_reverse]; omega), List.getElem?_drop, List.length_append, List.length_reverse, l1, l2]
      congr 2; omega
theorem next_rev {X : List Int} {k j : Nat} (hk : k + 1 ≤ X.length) : revAt (swp X k j) (k + 1) (X.length - (k + 1)) = nextP X k j := by
  unfold revAt nextP
  rw [show k + 1 + (X.length - (k + 1)) = (swp X k j).length by rw [swp_len]; omega, List.drop_length, List.append_nil]
  show (swp X k j).take (k + 1) ++ (((swp X k j).drop (k + 1)).take (X.length - (k + 1))).reverse = _
  rw [show ((swp X k j).drop (k + 1)).take (X.length - (k + 1)) = (swp X k j).drop (k + 1) from List.take_of_length_le (by rw [List.length_drop, swp_len]; omega)]
  rfl
/-! ### ranks as they are found -/
theorem lessn_take {x : Int} {t : List Int} {j : Nat} (h : j < t.length) : lessn x (t.take (j + 1)) = lessn x (t.take j) + if t.getD j 0 < x then 1 else 0 := by
  unfold lessn
  rw [take_snoc h, List.countP_append, List.countP_singleton]
  simp only [decide_eq_true_eq]
def rkV (X : List Int) : Int := if okP X = false ∨ 20 < X.length then 0 else (rnk X : Int)
def rkE (X : List Int) : Int := if okP X = false then 1 else if 20 < X.length then 5 else 0
theorem rk_step {X : List Int} {k acc : Nat} (hk : k < X.length) (h : acc * fac (X.length - k) + rnk (X.drop k) = rnk X) :
    (acc * (X.length - k) + lessn (X.getD k 0) (X.drop (k + 1))) * fac (X.length - (k + 1)) + rnk (X.drop (k + 1)) = rnk X := by
  rw [rnk_drop hk] at h
  have e : X.length - k = (X.length - (k + 1)) + 1 := by omega
  rw [e, fac] at h
  rw [e, Nat.add_mul, ← h, ← Nat.mul_assoc]
  omega
theorem rk_bound {X : List Int} (h20 : X.length ≤ 20) : rnk X < 2432902008176640000 := Nat.lt_of_lt_of_le (rnk_lt X) (fac_le h20)
theorem acc_bound {X : List Int} {k a : Nat} {r : Nat} (h20 : X.length ≤ 20) (h : a * fac (X.length - k) + r = rnk X) : a < 2432902008176640000 := by
  have h1 := rk_bound h20
  have h2 := fac_pos (X.length - k)
  have h3 : a * 1 ≤ a * fac (X.length - k) := Nat.mul_le_mul_left _ h2
  omega
theorem acc_bound2 {X : List Int} {k acc : Nat} (hk : k < X.length) (h20 : X.length ≤ 20) (h : acc * fac (X.length - k) + rnk (X.drop k) = rnk X) : acc * (X.length - k) < 2432902008176640000 := by
  have h1 := rk_bound h20
  have e : X.length - k = (X.length - (k + 1)) + 1 := by omega
  have h2 : (X.length - k) * 1 ≤ fac (X.length - k) := by
    rw [e, fac, Nat.mul_one]; exact Nat.le_mul_of_pos_right _ (fac_pos _)
  have h3 : acc * (X.length - k) ≤ acc * fac (X.length - k) := Nat.mul_le_mul_left _ (by omega)
  omega
theorem rk_step2 {X : List Int} {k acc : Nat} (hk : k < X.length) (h : acc + rnk (X.drop k) = rnk X) : acc + lessn (X.getD k 0) (X.drop (k + 1)) * fac (X.length - 1 - k) + rnk (X.drop (k + 1)) = rnk X := by
  rw [rnk_drop hk] at h
  rw [show X.length - 1 - k = X.length - (k + 1) by omega]; omega
theorem desc_rnk {X : List Int} (h : ∀ t, t + 1 < X.length → X.getD (t + 1) 0 < X.getD t 0) : rnk X + 1 = fac X.length := by
  have := desc_drop (p := X) _ 0 rfl (fun t _ ht => h t ht)
  rw [List.drop_zero] at this
  exact rnk_desc this
theorem desc_is {X : List Int} (ho : okP X = true) (h : ∀ t, t + 1 < X.length → X.getD (t + 1) 0 < X.getD t 0) : X = (pl X.length).reverse := by
  have h1 := desc_rnk h
  have hp := okP_perm.1 ho
  have h2 : rnk (pl X.length).reverse + 1 = fac X.length := by
    have := rnk_desc (l := (pl X.length).reverse) (List.pairwise_reverse.2 (pl_pw _))
    rwa [List.length_reverse, pl_len] at this
  have e1 := nthL_rnk X.length (pl X.length) X (pl_pw _) (pl_len _) hp
  have e2 := nthL_rnk X.length (pl X.length) (pl X.length).reverse (pl_pw _) (pl_len _) (List.reverse_perm _)
  rw [show rnk X = rnk (pl X.length).reverse by omega, e2] at e1
  exact e1.symm
theorem rev_pl {n k : Nat} (h : k < n) : ((pl n).reverse).getD k 0 = (n : Int) - 1 - k := by
  rw [List.getD_eq_getElem?_getD, List.getElem?_reverse (by rw [pl_len]; exact h), pl_len, ← List.getD_eq_getElem?_getD, pl_getD (by omega)]
  omega
/-- What the next order is. -/
def nxt (X Y : List Int) (er : Int) : Prop :=
  (okP X = false ∧ er = 1 ∧ Y = []) ∨ (okP X = true ∧ er = 11 ∧ Y = [] ∧ ∀ t, t + 1 < X.length → X.getD (t + 1) 0 < X.getD t 0) ∨ (okP X = true ∧ er = 0 ∧ Y.Perm X ∧ rnk Y = rnk X + 1)
theorem ne_of_ok {X : List Int} (h : okP X = true) {i j : Nat} (hi : i < X.length) (hj : j < X.length) (hij : i ≠ j) : X.getD i 0 ≠ X.getD j 0 := by
  have hn := (of_decide_eq_true h).1
  intro e
  have e2 : X[i] = X[j] := by simpa [List.getD, hi, hj] using e
  rcases Nat.lt_or_gt_of_ne hij with g | g
  · exact List.pairwise_iff_getElem.1 hn i j hi hj g e2
  · exact List.pairwise_iff_getElem.1 hn j i hj hi g e2.symm
theorem nxt_ok {X : List Int} {k j : Nat} (ho : okP X = true) (hkj : k < j) (hj : j < X.length) (hd : ∀ t, k + 1 ≤ t → t + 1 < X.length → X.getD (t + 1) 0 < X.getD t 0) (hxy : ¬ X.getD j 0 < X.getD k 0) (hz : ∀ t, j < t → t < X.length → X.getD t 0 < X.getD k 0) : nxt X (nextP X k j) 0 := by
  have hne := ne_of_ok ho (show k < X.length by omega) hj (by omega)
  obtain ⟨h1, h2⟩ := next_all hkj hj hd (by omega) hz
  exact .inr (.inr ⟨ho, rfl, h2, h1⟩)
end Go.Proofs.Ytphpbdnmdhlnoaa
