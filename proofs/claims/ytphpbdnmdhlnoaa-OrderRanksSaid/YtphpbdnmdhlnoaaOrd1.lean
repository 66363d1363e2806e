/-
  Orders in plain Lean: sorting by parts, places by counting. Nothing is assumed.
-/
import Derived.Test.YtphpbdnmdhlnoaaInts
namespace Go.Proofs.Ytphpbdnmdhlnoaa
/-- 0 to n - 1. -/
def pl (n : Nat) : List Int := (List.range n).map fun (i : Nat) => (i : Int)
theorem pl_len (n : Nat) : (pl n).length = n := by simp [pl]
theorem pl_succ (n : Nat) : pl (n + 1) = pl n ++ [(n : Int)] := by simp [pl, List.range_succ]
theorem pl_getD {n j : Nat} (h : j < n) : (pl n).getD j 0 = (j : Int) := by simp [pl, List.getD, h]
theorem mem_pl {n : Nat} {x : Int} : x ∈ pl n ↔ 0 ≤ x ∧ x < n := by
  simp only [pl, List.mem_map, List.mem_range]
  constructor
  · rintro ⟨a, h, rfl⟩; omega
  · intro h; exact ⟨x.toNat, by omega, by omega⟩
theorem pl_pw (n : Nat) : (pl n).Pairwise (· < ·) := by
  rw [pl, List.pairwise_map]
  exact List.pairwise_lt_range.imp fun h => by omega
theorem pl_nodup (n : Nat) : (pl n).Nodup := (pl_pw n).imp fun h => by omega
theorem pl_set (n k : Nat) (h : k < n) : (pl k ++ List.replicate (n - k) 0).set k (k : Int) = pl (k + 1) ++ List.replicate (n - (k + 1)) 0 := by
  rw [List.set_append_right _ _ (by rw [pl_len]; exact Nat.le_refl _), pl_len, Nat.sub_self, show n - k = (n - (k + 1)) + 1 by omega, List.replicate_succ, List.set_cons_zero, pl_succ, List.append_assoc]
  rfl
/-! ### sorting by parts -/
section
variable (lt : Int → Int → Bool)
def mrg : List Int → List Int → List Int
  | l, [] => l
  | [], b :: r => b :: r
  | a :: l, b :: r => if lt b a then b :: mrg (a :: l) r else a :: mrg l (b :: r)
termination_by l r => l.length + r.length
def msort : Nat → List Int → List Int
  | 0, p => p
  | f + 1, p => if p.length < 2 then p else mrg lt (msort f (p.take (p.length / 2))) (msort f (p.drop (p.length / 2)))
/-- a is ahead of b, or the same and stands ahead. -/
def rbo (a b : Int) : Bool := lt a b || (!lt b a && decide (a < b))
end
section
variable {lt : Int → Int → Bool}
theorem mrg_nil (l : List Int) : mrg lt l [] = l := by cases l <;> simp [mrg]
theorem nil_mrg (r : List Int) : mrg lt [] r = r := by cases r <;> simp [mrg]
theorem mrg_perm : ∀ (l r : List Int), (mrg lt l r).Perm (l ++ r)
  | l, [] => by rw [mrg_nil, List.append_nil]
  | [], b :: r => by rw [nil_mrg]; exact .refl _
  | a :: l, b :: r => by
    rw [mrg]
    split
    · exact ((mrg_perm (a :: l) r).cons b).trans List.perm_middle.symm
    · exact (mrg_perm l (b :: r)).cons a
termination_by l r => l.length + r.length
theorem mrg_len (l r : List Int) : (mrg lt l r).length = l.length + r.length := by
  have := (mrg_perm (lt := lt) l r).length_eq; simpa using this
theorem msort_perm : ∀ (f : Nat) (p : List Int), (msort lt f p).Perm p
  | 0, p => .refl _
  | f + 1, p => by
    rw [msort]
    split
    · exact .refl _
    · have h := (mrg_perm (lt := lt) (msort lt f (p.take (p.length / 2))) (msort lt f (p.drop (p.length / 2)))).trans ((msort_perm f _).append (msort_perm f _))
      rwa [List.take_append_drop] at h
theorem msort_len (f : Nat) (p : List Int) : (msort lt f p).length = p.length := (msort_perm f p).length_eq
variable {A : Int → Prop} (htr : ∀ a b c, A a → A b → A c → rbo lt a b = true → rbo lt b c = true → rbo lt a c = true)
include htr
theorem mrg_pw : ∀ (l r : List Int), (∀ x ∈ l, A x) → (∀ x ∈ r, A x) → (∀ a ∈ l, ∀ b ∈ r, a < b) → l.Pairwise (fun a b => rbo lt a b = true) → r.Pairwise (fun a b => rbo lt a b = true) → (mrg lt l r).Pairwise (fun a b => rbo lt a b = true)
  | l, [], _, _, _, hl, _ => by rw [mrg_nil]; exact hl
  | [], b :: r, _, _, _, _, hr => by rw [nil_mrg]; exact hr
  | a :: l, b :: r, hA, hB, hlt, hl, hr => by
    have hAa := hA a (.head _)
    have hBb := hB b (.head _)
    obtain ⟨hl1, hl2⟩ := List.pairwise_cons.1 hl
    obtain ⟨hr1, hr2⟩ := List.pairwise_cons.1 hr
    rw [mrg]
    split
    · rename_i h
      refine List.pairwise_cons.2 ⟨fun x hx => ?_, mrg_pw (a :: l) r hA (fun x hx => hB x (.tail _ hx)) (fun x hx y hy => hlt x hx y (.tail _ hy)) hl hr2⟩
      have hba : rbo lt b a = true := by simp [rbo, h]
      have hx' := (mrg_perm (lt := lt) (a :: l) r).mem_iff.1 hx
      rw [List.cons_append] at hx'
      rcases List.mem_cons.1 hx' with rfl | hx'
      · exact hba
      · rcases List.mem_append.1 hx' with g | g
        · exact htr b a x hBb hAa (hA x (.tail _ g)) hba (hl1 x g)
        · exact hr1 x g
    · rename_i h
      refine List.pairwise_cons.2 ⟨fun x hx => ?_, mrg_pw l (b :: r) (fun x hx => hA x (.tail _ hx)) hB (fun x hx y hy => hlt x (.tail _ hx) y hy) hl2 hr⟩
      have hab : rbo lt a b = true := by
        have := hlt a (.head _) b (.head _)
        simp [rbo, h, this]
      have hx' := (mrg_perm (lt := lt) l (b :: r)).mem_iff.1 hx
      rcases List.mem_append.1 hx' with g | g
      · exact hl1 x g
      · rcases List.mem_cons.1 g with rfl | g
        · exact hab
        · exact htr a b x hAa hBb (hB x (.tail _ g)) hab (hr1 x g)
termination_by l r => l.length + r.length
theorem msort_pw : ∀ (f : Nat) (p : List Int), p.length ≤ f → (∀ x ∈ p, A x) → p.Pairwise (· < ·) → (msort lt f p).Pairwise (fun a b => rbo lt a b = true)
  | 0, p, hl, _, _ => by rw [List.length_eq_zero_iff.1 (Nat.le_zero.1 hl)]; exact .nil
  | f + 1, p, hl, hA, hp => by
    rw [msort]
    split
    · rename_i h
      match p, h with
      | [], _ => exact .nil
      | [x], _ => exact List.pairwise_singleton _ _
      | x :: y :: z, h => exact absurd h (by simp only [List.length_cons]; omega)
    · rename_i h
      have e := List.take_append_drop (p.length / 2) p
      refine mrg_pw htr _ _ (fun x hx => hA x (List.mem_of_mem_take ((msort_perm f _).mem_iff.1 hx))) (fun x hx => hA x (List.mem_of_mem_drop ((msort_perm f _).mem_iff.1 hx))) ?_ ?_ ?_
      · intro a ha b hb
        rw [← e] at hp
        exact (List.pairwise_append.1 hp).2.2 a ((msort_perm f _).mem_iff.1 ha) b ((msort_perm f _).mem_iff.1 hb)
      · exact msort_pw f _ (by rw [List.length_take]; omega) (fun x hx => hA x (List.mem_of_mem_take hx)) (hp.sublist (List.take_sublist _ _))
      · exact msort_pw f _ (by rw [List.length_drop]; omega) (fun x hx => hA x (List.mem_of_mem_drop hx)) (hp.sublist (List.drop_sublist _ _))
end
/-! ### places by counting -/
section
variable {rb : Int → Int → Bool}
def rk (rb : Int → Int → Bool) (n : Nat) (m : Int) : Nat := (pl n).countP (fun b => rb b m)
theorem rk_zero (m : Int) : rk rb 0 m = 0 := rfl
theorem rk_succ (n : Nat) (m : Int) : rk rb (n + 1) m = rk rb n m + if rb n m then 1 else 0 := by
  rw [rk, pl_succ, List.countP_append, List.countP_singleton]; rfl
theorem rk_le (n : Nat) (m : Int) : rk rb n m ≤ n := by
  have := List.countP_le_length (p := fun b => rb b m) (l := pl n)
  rwa [pl_len] at this
theorem rk_at {n : Nat} {s : List Int} (hp : s.Perm (pl n)) (hs : s.Pairwise (fun a b => rb a b = true)) (hir : ∀ a, rb a a = false) (has : ∀ a b, a ∈ s → b ∈ s → rb a b = true → rb b a = false) {j : Nat} (hj : j < s.length) : rk rb n s[j] = j := by
  rw [rk, ← hp.countP_eq]
  have hmem := List.getElem_mem hj
  have e : s = s.take j ++ s[j] :: s.drop (j + 1) := by rw [List.getElem_cons_drop, List.take_append_drop]
  generalize s[j] = y at hmem e ⊢
  have hs2 := hs
  rw [e] at hs2
  obtain ⟨-, h2, h3⟩ := List.pairwise_append.1 hs2
  obtain ⟨h4, -⟩ := List.pairwise_cons.1 h2
  conv => lhs; rw [e]
  rw [List.countP_append, List.countP_cons, List.countP_eq_length.2 (fun a ha => h3 a ha _ (.head _)), List.countP_eq_zero.2 (fun a ha => ?_), hir, List.length_take]
  · simp; omega
  · rw [has _ _ hmem (List.mem_of_mem_drop ha) (h4 a ha)]; simp
/-- What is laid by places is the sorted list. -/
def laid (n : Nat) (s out : List Int) (m : Nat) : Prop := out.length = n ∧ ∀ j (h : j < s.length), s[j] < m → out.getD j 0 = s[j]
theorem laid_zero {n : Nat} {s : List Int} (hp : s.Perm (pl n)) : laid n s (List.replicate n 0) 0 :=
  ⟨by simp, fun j h hj => by
    have := mem_pl.1 (hp.mem_iff.1 (List.getElem_mem h)); omega⟩
theorem laid_lt {n m : Nat} {s : List Int} (hp : s.Perm (pl n)) (hs : s.Pairwise (fun a b => rb a b = true)) (hir : ∀ a, rb a a = false) (has : ∀ a b, a ∈ s → b ∈ s → rb a b = true → rb b a = false) (hm : m < n) : rk rb n m < n := by
  obtain ⟨j, hj, e⟩ := List.mem_iff_getElem.1 (hp.mem_iff.2 (mem_pl.2 (show 0 ≤ (m : Int) ∧ (m : Int) < n by omega)))
  rw [← e, rk_at hp hs hir has hj]
  have := hp.length_eq; rw [pl_len] at this; omega
theorem laid_succ {n m : Nat} {s out : List Int} (hp : s.Perm (pl n)) (hs : s.Pairwise (fun a b => rb a b = true)) (hir : ∀ a, rb a a = false) (has : ∀ a b, a ∈ s → b ∈ s → rb a b = true → rb b a = false) (hm : m < n) (h : laid n s out m) :
    laid n s (out.set (rk rb n m) m) (m + 1) := by
  obtain ⟨h1, h2⟩ := h
  have hsl : s.length = n := by have := hp.length_eq; rwa [pl_len] at this
  refine ⟨by rw [List.length_set, h1], fun j hj hlt => ?_⟩
  have hn : s.Nodup := hp.nodup_iff.2 (pl_nodup n)
  by_cases e : s[j] = (m : Int)
  · have hr := rk_at hp hs hir has hj
    rw [e] at hr
    rw [hr, List.getD_eq_getElem?_getD, List.getElem?_set_self (by omega), e]; rfl
  · have hne : rk rb n m ≠ j := by
      intro hr
      obtain ⟨j2, hj2, e2⟩ := List.mem_iff_getElem.1 (hp.mem_iff.2 (mem_pl.2 (show 0 ≤ (m : Int) ∧ (m : Int) < n by omega)))
      have hr2 := rk_at hp hs hir has hj2
      rw [e2, hr] at hr2
      subst hr2
      exact e e2
    rw [List.getD_eq_getElem?_getD, List.getElem?_set_ne hne, ← List.getD_eq_getElem?_getD]
    exact h2 j hj (by omega)
theorem laid_end {n : Nat} {s out : List Int} (hp : s.Perm (pl n)) (h : laid n s out n) : out = s := by
  obtain ⟨h1, h2⟩ := h
  have hsl : s.length = n := by have := hp.length_eq; rwa [pl_len] at this
  refine List.ext_getElem (by omega) fun j h3 h4 => ?_
  have := h2 j h4 (mem_pl.1 (hp.mem_iff.1 (List.getElem_mem h4))).2
  rw [← this]; simp [List.getD, h3]
end
theorem rbo_irr {lt : Int → Int → Bool} (a : Int) (h : lt a a = false) : rbo lt a a = false := by simp [rbo, h]
theorem rbo_asym {lt : Int → Int → Bool} {a b : Int} (h : lt a b = true → lt b a = false) (hr : rbo lt a b = true) : rbo lt b a = false := by
  unfold rbo at hr ⊢
  cases h1 : lt a b <;> cases h2 : lt b a <;> simp [h1, h2] at hr h ⊢
  omega
/-! ### what an order is -/
theorem perm_of_nodup : ∀ {l m : List Int}, l.Nodup → l ⊆ m → m.length ≤ l.length → l.Perm m
  | [], m, _, _, h => by rw [List.length_eq_zero_iff.1 (Nat.le_zero.1 h)]
  | x :: l, m, hn, hs, hl => by
    obtain ⟨h1, h2⟩ := List.nodup_cons.1 hn
    have hx : x ∈ m := hs (.head _)
    have hp := List.perm_cons_erase hx
    refine List.Perm.trans (List.Perm.cons x (perm_of_nodup h2 (fun y hy => ?_) ?_)) hp.symm
    · have hy' := hs (.tail _ hy)
      exact (List.mem_erase_of_ne (by rintro rfl; exact h1 hy)).2 hy'
    · rw [List.length_erase_of_mem hx]; simp only [List.length_cons] at hl; omega
def okP (p : List Int) : Bool := decide (p.Nodup ∧ ∀ x ∈ p, 0 ≤ x ∧ x < p.length)
theorem okP_perm {p : List Int} : okP p = true ↔ p.Perm (pl p.length) := by
  rw [okP, decide_eq_true_iff]
  constructor
  · rintro ⟨h1, h2⟩
    have hsub : p ⊆ pl p.length := fun x hx => mem_pl.2 (h2 x hx)
    exact perm_of_nodup h1 hsub (by rw [pl_len]; exact Nat.le_refl _)
  · intro h
    exact ⟨h.nodup_iff.2 (pl_nodup _), fun x hx => mem_pl.1 (h.mem_iff.1 hx)⟩
end Go.Proofs.Ytphpbdnmdhlnoaa
