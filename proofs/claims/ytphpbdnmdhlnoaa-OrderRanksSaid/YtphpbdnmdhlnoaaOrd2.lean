/-
  Orders as numbers, in plain Lean. Nothing is assumed.
-/
import Derived.Test.YtphpbdnmdhlnoaaOrd1
namespace Go.Proofs.Ytphpbdnmdhlnoaa
def fac : Nat → Nat
  | 0 => 1
  | n + 1 => (n + 1) * fac n
theorem fac_pos : ∀ n, 0 < fac n
  | 0 => Nat.one_pos
  | n + 1 => Nat.mul_pos (Nat.succ_pos n) (fac_pos n)
theorem fac_mono {m n : Nat} (h : m ≤ n) : fac m ≤ fac n := by
  induction h with
  | refl => exact Nat.le_refl _
  | step h ih => exact Nat.le_trans ih (Nat.le_mul_of_pos_left _ (Nat.succ_pos _))
theorem fac_le {n : Nat} (h : n ≤ 20) : fac n ≤ 2432902008176640000 := fac_mono h
theorem fac_dvd {m n : Nat} (h : m ≤ n) : fac m ∣ fac n := by
  induction h with
  | refl => exact Nat.dvd_refl _
  | step h ih => exact Nat.dvd_trans ih (Nat.dvd_mul_left _ _)
def lessn (x : Int) (t : List Int) : Nat := t.countP fun y => decide (y < x)
theorem lessn_le (x : Int) (t : List Int) : lessn x t ≤ t.length := List.countP_le_length
def rnk : List Int → Nat
  | [] => 0
  | x :: t => lessn x t * fac t.length + rnk t
theorem rnk_lt : ∀ p : List Int, rnk p < fac p.length
  | [] => Nat.one_pos
  | x :: t => by
    have h := rnk_lt t
    have h1 : lessn x t * fac t.length ≤ t.length * fac t.length := Nat.mul_le_mul_right _ (lessn_le x t)
    simp only [rnk, List.length_cons, fac, Nat.succ_mul]
    omega
theorem rnk_drop {p : List Int} {k : Nat} (h : k < p.length) : rnk (p.drop k) = lessn (p.getD k 0) (p.drop (k + 1)) * fac (p.length - (k + 1)) + rnk (p.drop (k + 1)) := by
  rw [List.drop_eq_getElem_cons h, rnk, List.length_drop]
  simp [List.getD, h]
theorem lessn_perm {x : Int} {t u : List Int} (h : t.Perm u) : lessn x t = lessn x u := h.countP_eq _
theorem rnk_app : ∀ (A : List Int) {t u : List Int}, t.Perm u → rnk (A ++ u) + rnk t = rnk (A ++ t) + rnk u
  | [], t, u, _ => by simp only [List.nil_append]; omega
  | x :: A, t, u, h => by
    have ih := rnk_app A h
    simp only [List.cons_append, rnk]
    rw [lessn_perm (h.append_left A), (h.append_left A).length_eq]
    omega
theorem rnk_desc : ∀ {l : List Int}, l.Pairwise (fun a b => b < a) → rnk l + 1 = fac l.length
  | [], _ => rfl
  | x :: t, h => by
    obtain ⟨h1, h2⟩ := List.pairwise_cons.1 h
    have ih := rnk_desc h2
    have : lessn x t = t.length := List.countP_eq_length.2 fun y hy => decide_eq_true (h1 y hy)
    simp only [rnk, this, List.length_cons, fac, Nat.succ_mul]
    omega
theorem rnk_asc : ∀ {l : List Int}, l.Pairwise (· < ·) → rnk l = 0
  | [], _ => rfl
  | x :: t, h => by
    obtain ⟨h1, h2⟩ := List.pairwise_cons.1 h
    have : lessn x t = 0 := List.countP_eq_zero.2 fun y hy => by have := h1 y hy; simp; omega
    simp only [rnk, this, rnk_asc h2, Nat.zero_mul]
/-- The order of a rank, of what is left. -/
def nthL : Nat → List Int → Nat → List Int
  | 0, _, _ => []
  | m + 1, left, r => left.getD (r / fac m) 0 :: nthL m (left.eraseIdx (r / fac m)) (r % fac m)
theorem div_lt {m r : Nat} (h : r < fac (m + 1)) : r / fac m < m + 1 := Nat.div_lt_of_lt_mul (by rw [Nat.mul_comm]; exact h)
theorem nthL_len : ∀ (n : Nat) (left : List Int) (r : Nat), (nthL n left r).length = n
  | 0, _, _ => rfl
  | m + 1, left, r => by rw [nthL, List.length_cons, nthL_len m]
theorem cons_eraseIdx {l : List Int} {d : Nat} (h : d < l.length) : l.Perm (l.getD d 0 :: l.eraseIdx d) := by
  have e : l = l.take d ++ l.getD d 0 :: l.drop (d + 1) := by
    have : l.getD d 0 = l[d] := by simp [List.getD, h]
    rw [this, List.getElem_cons_drop, List.take_append_drop]
  rw [List.eraseIdx_eq_take_drop_succ]
  exact (List.Perm.of_eq e).trans List.perm_middle
theorem nthL_perm : ∀ (n : Nat) (left : List Int) (r : Nat), left.length = n → r < fac n → (nthL n left r).Perm left
  | 0, left, r, h, _ => by rw [List.length_eq_zero_iff.1 h]; exact .nil
  | m + 1, left, r, h, hr => by
    have hd := div_lt hr
    exact (List.Perm.cons _ (nthL_perm m _ _ (by rw [List.length_eraseIdx_of_lt (by omega)]; omega) (Nat.mod_lt _ (fac_pos m)))).trans (cons_eraseIdx (by omega)).symm
theorem less_sorted {l : List Int} (h : l.Pairwise (· < ·)) {d : Nat} (hd : d < l.length) : lessn (l.getD d 0) (l.eraseIdx d) = d := by
  have hg : l.getD d 0 = l[d] := by simp [List.getD, hd]
  have e : l = l.take d ++ l[d] :: l.drop (d + 1) := by rw [List.getElem_cons_drop, List.take_append_drop]
  rw [hg, List.eraseIdx_eq_take_drop_succ]
  generalize l[d] = y at e
  rw [e] at h
  obtain ⟨-, h2, h3⟩ := List.pairwise_append.1 h
  obtain ⟨h4, -⟩ := List.pairwise_cons.1 h2
  rw [lessn, List.countP_append, List.countP_eq_length.2 (fun a ha => decide_eq_true (h3 a ha y (.head _))), List.countP_eq_zero.2 (fun a ha => by have := h4 a ha; simp; omega), List.length_take]
  omega
theorem rnk_nthL : ∀ (n : Nat) (left : List Int) (r : Nat), left.Pairwise (· < ·) → left.length = n → r < fac n → rnk (nthL n left r) = r
  | 0, left, r, _, _, hr => by simp only [nthL, rnk]; simp [fac] at hr; omega
  | m + 1, left, r, hs, hl, hr => by
    have hd := div_lt hr
    have hm := Nat.mod_lt r (fac_pos m)
    have hle : (left.eraseIdx (r / fac m)).length = m := by rw [List.length_eraseIdx_of_lt (by omega)]; omega
    rw [nthL, rnk, nthL_len, rnk_nthL m _ _ (hs.sublist (List.eraseIdx_sublist _ _)) hle hm, lessn_perm (nthL_perm m _ _ hle hm), less_sorted hs (by omega), Nat.mul_comm]
    exact Nat.div_add_mod r (fac m)
theorem nthL_rnk : ∀ (n : Nat) (left p : List Int), left.Pairwise (· < ·) → left.length = n → p.Perm left → nthL n left (rnk p) = p
  | 0, left, p, _, hl, hp => by
    rw [List.length_eq_zero_iff.1 hl] at hp
    rw [hp.eq_nil]; rfl
  | m + 1, left, [], _, hl, hp => by have := hp.length_eq; rw [hl] at this; simp at this
  | m + 1, left, x :: t, hs, hl, hp => by
    have htl : t.length = m := by have := hp.length_eq; rw [hl] at this; simpa using this
    obtain ⟨d, hd, hx⟩ := List.mem_iff_getElem.1 (hp.mem_iff.1 (List.Mem.head t))
    have hx' : left.getD d 0 = x := by simp [List.getD, hd, hx]
    have hpt : t.Perm (left.eraseIdx d) := by
      have := hp.trans (cons_eraseIdx hd)
      rw [hx'] at this
      exact this.cons_inv
    have hls : lessn x t = d := by rw [lessn_perm hpt, ← hx', less_sorted hs hd]
    have hr := rnk_lt t
    rw [htl] at hr
    have hdiv : (lessn x t * fac t.length + rnk t) / fac m = d := by
      rw [hls, htl, Nat.mul_comm, Nat.mul_add_div (fac_pos m), Nat.div_eq_of_lt hr, Nat.add_zero]
    have hmod : (lessn x t * fac t.length + rnk t) % fac m = rnk t := by
      rw [htl, Nat.mul_comm, Nat.mul_add_mod, Nat.mod_eq_of_lt hr]
    rw [rnk, nthL, hdiv, hmod, hx', nthL_rnk m _ t (hs.sublist (List.eraseIdx_sublist _ _)) (by rw [List.length_eraseIdx_of_lt hd]; omega) hpt]
/-! ### the next one -/
def nextP (p : List Int) (k j : Nat) : List Int :=
  ((p.set k (p.getD j 0)).set j (p.getD k 0)).take (k + 1) ++ (((p.set k (p.getD j 0)).set j (p.getD k 0)).drop (k + 1)).reverse
theorem next_shape (A D1 D2 : List Int) (x y : Int) : nextP (A ++ x :: (D1 ++ y :: D2)) A.length (A.length + 1 + D1.length) = A ++ y :: (D1 ++ x :: D2).reverse := by
  have g1 : (A ++ x :: (D1 ++ y :: D2)).getD A.length 0 = x := by simp [List.getD]
  have g2 : (A ++ x :: (D1 ++ y :: D2)).getD (A.length + 1 + D1.length) 0 = y := by
    simp only [List.getD_eq_getElem?_getD]
    rw [List.getElem?_append_right (by omega), show A.length + 1 + D1.length - A.length = D1.length + 1 by omega, List.getElem?_cons_succ, List.getElem?_append_right (Nat.le_refl _), Nat.sub_self]
    rfl
  have s1 : (A ++ x :: (D1 ++ y :: D2)).set A.length y = A ++ y :: (D1 ++ y :: D2) := by
    rw [List.set_append_right _ _ (Nat.le_refl _), Nat.sub_self]; rfl
  have s2 : (A ++ y :: (D1 ++ y :: D2)).set (A.length + 1 + D1.length) x = A ++ y :: (D1 ++ x :: D2) := by
    rw [List.set_append_right _ _ (by omega), show A.length + 1 + D1.length - A.length = D1.length + 1 by omega, List.set_cons_succ, List.set_append_right _ _ (Nat.le_refl _), Nat.sub_self]
    rfl
  rw [nextP, g1, g2, s1, s2]
  have t1 : (A ++ y :: (D1 ++ x :: D2)).take (A.length + 1) = A ++ [y] := by
    rw [List.take_append, List.take_of_length_le (by omega), show A.length + 1 - A.length = 1 by omega]; rfl
  have t2 : (A ++ y :: (D1 ++ x :: D2)).drop (A.length + 1) = D1 ++ x :: D2 := by
    rw [List.drop_append, List.drop_eq_nil_of_le (by omega), show A.length + 1 - A.length = 1 by omega]; rfl
  rw [t1, t2, List.append_assoc]; rfl
theorem next_rnk (A D1 D2 : List Int) (x y : Int) (hd : (D1 ++ y :: D2).Pairwise (fun a b => b < a)) (hxy : x < y) (h2 : ∀ z ∈ D2, z < x) :
    rnk (A ++ y :: (D1 ++ x :: D2).reverse) = rnk (A ++ x :: (D1 ++ y :: D2)) + 1 ∧ (A ++ y :: (D1 ++ x :: D2).reverse).Perm (A ++ x :: (D1 ++ y :: D2)) := by
  obtain ⟨p1, p2, p3⟩ := List.pairwise_append.1 hd
  obtain ⟨p4, p5⟩ := List.pairwise_cons.1 p2
  have hperm : (y :: (D1 ++ x :: D2).reverse).Perm (x :: (D1 ++ y :: D2)) := by
    refine ((List.reverse_perm _).cons y).trans ?_
    refine (List.Perm.cons y List.perm_middle).trans ?_
    refine (List.Perm.swap x y _).trans ?_
    exact List.Perm.cons x List.perm_middle.symm
  refine ⟨?_, hperm.append_left A⟩
  have e := rnk_app A hperm
  have hdx : (D1 ++ x :: D2).Pairwise (fun a b => b < a) := by
    refine List.pairwise_append.2 ⟨p1, List.pairwise_cons.2 ⟨h2, p5⟩, fun a ha b hb => ?_⟩
    have hay := p3 a ha y (.head _)
    rcases List.mem_cons.1 hb with rfl | hb
    · omega
    · have := h2 b hb; omega
  have hasc : rnk (D1 ++ x :: D2).reverse = 0 := rnk_asc (List.pairwise_reverse.2 hdx)
  have hy : lessn y (D1 ++ x :: D2).reverse = D2.length + 1 := by
    rw [lessn_perm (List.reverse_perm _), lessn, List.countP_append, List.countP_cons, List.countP_eq_zero.2 (fun a ha => by have := p3 a ha y (.head _); simp; omega), List.countP_eq_length.2 (fun a ha => decide_eq_true (p4 a ha)), decide_eq_true hxy]
    simp
  have hx : lessn x (D1 ++ y :: D2) = D2.length := by
    rw [lessn, List.countP_append, List.countP_cons, List.countP_eq_zero.2 (fun a ha => by have := p3 a ha y (.head _); simp; omega), List.countP_eq_length.2 (fun a ha => decide_eq_true (h2 a ha)), decide_eq_false (by omega)]
    simp
  have hdy := rnk_desc hd
  have hlen : (D1 ++ x :: D2).reverse.length = (D1 ++ y :: D2).length := by simp; omega
  have l1 : rnk (y :: (D1 ++ x :: D2).reverse) = (D2.length + 1) * fac (D1 ++ y :: D2).length := by rw [rnk, hy, hasc, hlen, Nat.add_zero]
  have l2 : rnk (x :: (D1 ++ y :: D2)) + 1 = (D2.length + 1) * fac (D1 ++ y :: D2).length := by
    rw [rnk, hx, Nat.add_assoc, hdy, Nat.succ_mul]
  omega
theorem split_at {p : List Int} {k : Nat} (h : k < p.length) : p = p.take k ++ p.getD k 0 :: p.drop (k + 1) := by
  have : p.getD k 0 = p[k] := by simp [List.getD, h]
  rw [this, List.getElem_cons_drop, List.take_append_drop]
theorem desc_drop {p : List Int} : ∀ (m i : Nat), p.length - i = m → (∀ t, i ≤ t → t + 1 < p.length → p.getD (t + 1) 0 < p.getD t 0) → (p.drop i).Pairwise (fun a b => b < a)
  | 0, i, hm, _ => by rw [List.drop_eq_nil_of_le (by omega)]; exact .nil
  | m + 1, i, hm, h => by
    have ih := desc_drop m (i + 1) (by omega) (fun t ht hl => h t (by omega) hl)
    rw [show p.drop i = p.getD i 0 :: p.drop (i + 1) by
      have : p.getD i 0 = p[i]'(by omega) := by simp [List.getD, show i < p.length by omega]
      rw [this, List.getElem_cons_drop]]
    refine List.pairwise_cons.2 ⟨fun a ha => ?_, ih⟩
    obtain ⟨j, hj, rfl⟩ := List.mem_iff_getElem.1 ha
    rw [List.length_drop] at hj
    rw [List.getElem_drop]
    have key : ∀ j, i + 1 + j < p.length → p.getD (i + 1 + j) 0 < p.getD i 0 := by
      intro j
      induction j with
      | zero => intro hl; exact h i (Nat.le_refl _) (by omega)
      | succ j ih2 => intro hl; have := ih2 (by omega); have := h (i + 1 + j) (by omega) (by omega); rw [show i + 1 + (j + 1) = i + 1 + j + 1 by omega]; omega
    have := key j (by omega)
    rwa [show p.getD (i + 1 + j) 0 = p[i + 1 + j]'(by omega) by simp [List.getD, show i + 1 + j < p.length by omega]] at this
theorem next_all {p : List Int} {k j : Nat} (hkj : k < j) (hj : j < p.length) (hd : ∀ t, k + 1 ≤ t → t + 1 < p.length → p.getD (t + 1) 0 < p.getD t 0) (hxy : p.getD k 0 < p.getD j 0) (hz : ∀ t, j < t → t < p.length → p.getD t 0 < p.getD k 0) :
    rnk (nextP p k j) = rnk p + 1 ∧ (nextP p k j).Perm p := by
  have e1 := split_at (show k < p.length by omega)
  have hdl : j - (k + 1) < (p.drop (k + 1)).length := by rw [List.length_drop]; omega
  have e2 := split_at hdl
  have hgj : (p.drop (k + 1)).getD (j - (k + 1)) 0 = p.getD j 0 := by
    simp only [List.getD_eq_getElem?_getD, List.getElem?_drop]; rw [show k + 1 + (j - (k + 1)) = j by omega]
  rw [hgj, List.drop_drop, show k + 1 + (j - (k + 1) + 1) = j + 1 by omega] at e2
  have hdd := desc_drop (p := p) _ (k + 1) rfl hd
  generalize hx : p.getD k 0 = x at *
  generalize hy : p.getD j 0 = y at *
  have hlA : (p.take k).length = k := by rw [List.length_take]; omega
  have hlD : ((p.drop (k + 1)).take (j - (k + 1))).length = j - (k + 1) := by rw [List.length_take, List.length_drop]; omega
  have h2 : ∀ z ∈ p.drop (j + 1), z < x := by
    intro z hzm
    obtain ⟨i, hi, rfl⟩ := List.mem_iff_getElem.1 hzm
    rw [List.length_drop] at hi
    rw [List.getElem_drop]
    have := hz (j + 1 + i) (by omega) (by omega)
    rwa [show p.getD (j + 1 + i) 0 = p[j + 1 + i]'(by omega) by simp [List.getD, show j + 1 + i < p.length by omega]] at this
  generalize hA : p.take k = A at *
  generalize hD1 : (p.drop (k + 1)).take (j - (k + 1)) = D1 at *
  generalize hD2 : p.drop (j + 1) = D2 at *
  rw [e2] at e1 hdd
  have hk : k = A.length := hlA.symm
  have hjj : j = A.length + 1 + D1.length := by omega
  have := next_rnk A D1 D2 x y hdd hxy h2
  rw [e1, hjj, hk, next_shape]
  exact this
end Go.Proofs.Ytphpbdnmdhlnoaa
