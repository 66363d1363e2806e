/-
  The order of a rank, as both programs find it. Plain Lean; nothing is assumed.
-/
import Derived.Test.YtphpbdnmdhlnoaaOrd5
namespace Go.Proofs.Ytphpbdnmdhlnoaa
def dig (r i : Nat) : Nat := r / fac i % (i + 1)
theorem dig_div (r k : Nat) : r / fac k / (k + 1) = r / fac (k + 1) := by rw [Nat.div_div_eq_div_mul, fac, Nat.mul_comm]
theorem dig_mod (r m : Nat) : r % fac (m + 1) / fac m = dig r m := by
  unfold dig
  rw [fac, Nat.mul_comm, Nat.mod_mul_right_div_self]
theorem mod_mod_fac (r m : Nat) : r % fac (m + 1) % fac m = r % fac m := Nat.mod_mod_of_dvd r (fac_dvd (Nat.le_succ m))
theorem dig_lt (r i : Nat) : dig r i < i + 1 := Nat.mod_lt _ (Nat.succ_pos i)
/-- The steps of order.Nth. -/
theorem nth_step {n r j : Nat} {L Q : List Int} (hj : j < n) (h : Q ++ nthL (n - j) L (r % fac (n - j)) = nthL n (pl n) (r % fac n)) :
    (Q ++ [L.getD (dig r (n - 1 - j)) 0]) ++ nthL (n - (j + 1)) (L.eraseIdx (dig r (n - 1 - j))) (r % fac (n - (j + 1))) = nthL n (pl n) (r % fac n) := by
  rw [← h, List.append_assoc]
  congr 1
  have e : n - j = (n - (j + 1)) + 1 := by omega
  rw [e, nthL, dig_mod, mod_mod_fac, show n - 1 - j = n - (j + 1) by omega]
  rfl
theorem nth_lt {n r j : Nat} {L : List Int} (hj : j < n) (hl : L.length = n - j) : dig r (n - 1 - j) < L.length := by
  have := dig_lt r (n - 1 - j); omega
/-! ### what is left, of what was used -/
def filt (sn : List Bool) (v : Nat) : List Int := (pl v).filter fun x => !sn.getD x.toNat false
theorem filt_succ (sn : List Bool) (v : Nat) : filt sn (v + 1) = filt sn v ++ (if sn.getD v false = true then [] else [(v : Int)]) := by
  unfold filt
  rw [pl_succ, List.filter_append]
  congr 1
  by_cases h : sn.getD v false = true
  · rw [if_pos h]; simp only [List.filter_cons, Int.toNat_natCast, h]; rfl
  · have h' : sn.getD v false = false := by simpa using h
    rw [if_neg h]; simp only [List.filter_cons, Int.toNat_natCast, h']; rfl
theorem filt_none (n m : Nat) : filt (List.replicate m false) n = pl n := by
  unfold filt
  rw [List.filter_eq_self]
  intro x _
  simp only [List.getD_eq_getElem?_getD, List.getElem?_replicate]
  split <;> rfl
theorem filt_app (sn : List Bool) {v n : Nat} (h : v ≤ n) : ∃ R, filt sn n = filt sn v ++ R := by
  induction h with
  | refl => exact ⟨[], by simp⟩
  | step h ih => obtain ⟨R, e⟩ := ih; exact ⟨R ++ _, by rw [Nat.succ_eq_add_one, filt_succ, e, List.append_assoc]⟩
theorem filt_le (sn : List Bool) {v n : Nat} (h : v ≤ n) : (filt sn v).length ≤ (filt sn n).length := by
  obtain ⟨R, e⟩ := filt_app sn h; rw [e, List.length_append]; omega
theorem filt_pw (sn : List Bool) (n : Nat) : (filt sn n).Pairwise (· < ·) := (pl_pw n).sublist List.filter_sublist
theorem filt_at {sn : List Bool} {v n : Nat} (hv : v < n) (hf : sn.getD v false = false) : (filt sn n).getD (filt sn v).length 0 = (v : Int) := by
  obtain ⟨R, e⟩ := filt_app sn (show v + 1 ≤ n from hv)
  rw [e, filt_succ, if_neg (by rw [hf]; simp)]
  simp [List.getD]
theorem filt_lt {sn : List Bool} {v n : Nat} (hv : v < n) (hf : sn.getD v false = false) : (filt sn v).length < (filt sn n).length := by
  obtain ⟨R, e⟩ := filt_app sn (show v + 1 ≤ n from hv)
  rw [e, filt_succ, if_neg (by rw [hf]; simp)]
  simp
theorem getD_setB (X : List Bool) (i t : Nat) (v : Bool) (hi : i < X.length) : (X.set i v).getD t false = if t = i then v else X.getD t false := by
  rw [List.getD_eq_getElem?_getD, List.getElem?_set]
  by_cases e : i = t
  · subst e; simp [hi]
  · rw [if_neg e, if_neg (fun h => e h.symm), List.getD_eq_getElem?_getD]
theorem filt_set {sn : List Bool} {v : Nat} (hl : v < sn.length) (hf : sn.getD v false = false) : ∀ n, filt (sn.set v true) n = if v < n then (filt sn n).eraseIdx (filt sn v).length else filt sn n
  | 0 => by simp [filt, pl]
  | n + 1 => by
    rw [filt_succ, filt_set hl hf n, getD_setB _ _ _ _ hl]
    by_cases h1 : v < n
    · rw [if_pos h1, if_neg (show ¬ n = v by omega), if_pos (show v < n + 1 by omega), filt_succ sn n, List.eraseIdx_append_of_lt_length (filt_lt h1 hf)]
    · rw [if_neg h1]
      by_cases h2 : n = v
      · subst h2
        rw [if_pos (show n < n + 1 by omega), if_pos (show n = n from rfl), if_pos (show true = true from rfl), filt_succ sn n, if_neg (show ¬ sn.getD n false = true by rw [hf]; simp), List.append_nil, List.eraseIdx_append_of_length_le (Nat.le_refl _), Nat.sub_self]
        simp
      · rw [if_neg (show ¬ v < n + 1 by omega), if_neg h2, filt_succ sn n]
/-- The steps of the reference. -/
theorem rnth_step {n r j v : Nat} {sn : List Bool} {Q X : List Int} (hj : j < n) (hsn : sn.length = 20) (hn : n ≤ 20) (hll : (filt sn n).length = n - j) (hv : v < n) (hf : sn.getD v false = false) (hd : (filt sn v).length = r / fac (n - 1 - j))
    (h : Q ++ nthL (n - j) (filt sn n) r = X) : (Q ++ [(v : Int)]) ++ nthL (n - (j + 1)) (filt (sn.set v true) n) (r % fac (n - 1 - j)) = X ∧ (filt (sn.set v true) n).length = n - (j + 1) := by
  rw [filt_set (by omega) hf, if_pos hv]
  constructor
  · rw [← h, List.append_assoc]
    congr 1
    have e : n - j = (n - 1 - j) + 1 := by omega
    rw [e, nthL, ← hd, filt_at hv hf, show n - (j + 1) = n - 1 - j by omega]
    rfl
  · rw [List.length_eraseIdx_of_lt (filt_lt hv hf), hll]; omega
def nthV (n rank : Int) : List Int := if 0 ≤ n ∧ n ≤ 20 ∧ 0 ≤ rank ∧ rank < fac n.toNat then nthL n.toNat (pl n.toNat) rank.toNat else []
def nthE (n rank : Int) : Int := if ¬ (0 ≤ n ∧ n ≤ 20) then 1 else if ¬ (0 ≤ rank ∧ rank < fac n.toNat) then 11 else 0
end Go.Proofs.Ytphpbdnmdhlnoaa
