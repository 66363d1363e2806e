/-
  What is ahead by keys and by ratios, in plain Lean. Nothing is assumed.
-/
import Derived.Test.YtphpbdnmdhlnoaaOrd1
namespace Go.Proofs.Ytphpbdnmdhlnoaa
theorem rbo_trans {lt : Int → Int → Bool} {A : Int → Prop} (has : ∀ x y, lt x y = true → lt y x = false) (hle : ∀ x y z, A x → A y → A z → lt y x = false → lt z y = false → lt z x = false) :
    ∀ x y z, A x → A y → A z → rbo lt x y = true → rbo lt y z = true → rbo lt x z = true := by
  intro x y z ax ay az h1 h2
  have l1 : lt y x = false := by
    unfold rbo at h1
    cases h : lt x y with
    | true => exact has _ _ h
    | false => rw [h] at h1; cases g : lt y x with
      | true => rw [g] at h1; simp at h1
      | false => rfl
  have l2 : lt z y = false := by
    unfold rbo at h2
    cases h : lt y z with
    | true => exact has _ _ h
    | false => rw [h] at h2; cases g : lt z y with
      | true => rw [g] at h2; simp at h2
      | false => rfl
  have l3 := hle x y z ax ay az l1 l2
  unfold rbo at h1 h2 ⊢
  rw [l3]
  cases h : lt x z with
  | true => rfl
  | false =>
    have q1 : lt x y = false := by
      cases g : lt x y with
      | false => rfl
      | true => have := hle y z x ay az ax l2 h; rw [g] at this; cases this
    have q2 : lt y z = false := by
      cases g : lt y z with
      | false => rfl
      | true => have := hle z x y az ax ay h l1; rw [g] at this; cases this
    rw [q1, l1] at h1
    rw [q2, l2] at h2
    simp at h1 h2 ⊢
    omega
/-! ### by keys -/
def ltk (K : List Int) (x y : Int) : Bool := decide (K.getD x.toNat 0 < K.getD y.toNat 0)
theorem ltk_asym (K : List Int) (x y : Int) (h : ltk K x y = true) : ltk K y x = false := by
  unfold ltk at *; simp only [decide_eq_true_eq, decide_eq_false_iff_not] at *; omega
theorem ltk_le (K : List Int) (x y z : Int) (h1 : ltk K y x = false) (h2 : ltk K z y = false) : ltk K z x = false := by
  unfold ltk at *; simp only [decide_eq_false_iff_not] at *; omega
def inR (n : Nat) (x : Int) : Prop := 0 ≤ x ∧ x < n
def byK (K : List Int) : List Int := msort (ltk K) (K.length + 1) (pl K.length)
theorem byK_perm (K : List Int) : (byK K).Perm (pl K.length) := msort_perm _ _
theorem byK_len (K : List Int) : (byK K).length = K.length := by rw [(byK_perm K).length_eq, pl_len]
theorem byK_pw (K : List Int) : (byK K).Pairwise (fun a b => rbo (ltk K) a b = true) :=
  msort_pw (A := fun _ => True) (rbo_trans (ltk_asym K) (fun x y z _ _ _ => ltk_le K x y z)) _ _ (by rw [pl_len]; omega) (fun _ _ => trivial) (pl_pw _)
theorem rbk_irr (K : List Int) (a : Int) : rbo (ltk K) a a = false := rbo_irr a (by simp [ltk])
theorem rbk_asym (K : List Int) (a b : Int) (h : rbo (ltk K) a b = true) : rbo (ltk K) b a = false := rbo_asym (ltk_asym K a b) h
theorem rbk_eq (K : List Int) (b m : Nat) : rbo (ltk K) (b : Int) (m : Int) = decide (K.getD b 0 < K.getD m 0 ∨ (K.getD b 0 = K.getD m 0 ∧ (b : Int) < m)) := by
  unfold rbo ltk
  rw [Int.toNat_natCast, Int.toNat_natCast]
  generalize K.getD b 0 = x
  generalize K.getD m 0 = y
  by_cases h1 : x < y
  · simp [h1]
  · by_cases h2 : y < x
    · have h3 : ¬ x = y := by omega
      simp [h1, h2, h3]
    · have h3 : x = y := by omega
      simp [h3]
/-! ### by ratios -/
def ltq (v w : List Int) (x y : Int) : Bool := if w.getD y.toNat 0 = 0 then false else if w.getD x.toNat 0 = 0 then true else decide (v.getD y.toNat 0 * w.getD x.toNat 0 < v.getD x.toNat 0 * w.getD y.toNat 0)
theorem ltq_asym (v w : List Int) (x y : Int) (h : ltq v w x y = true) : ltq v w y x = false := by
  unfold ltq at *
  split at h
  · cases h
  · rename_i h1
    split at h
    · rename_i h2; rw [if_pos h2]
    · rename_i h2
      rw [if_neg h2, if_neg h1]
      simp only [decide_eq_true_eq, decide_eq_false_iff_not] at *
      omega
theorem ltq_le (v w : List Int) (hw : ∀ z, 0 ≤ w.getD z 0) (x y z : Int) (h1 : ltq v w y x = false) (h2 : ltq v w z y = false) : ltq v w z x = false := by
  unfold ltq at *
  by_cases ex : w.getD x.toNat 0 = 0
  · rw [if_pos ex]
  · rw [if_neg ex] at h1 ⊢
    by_cases ey : w.getD y.toNat 0 = 0
    · rw [if_pos ey] at h1; cases h1
    · rw [if_neg ey] at h1 h2
      by_cases ez : w.getD z.toNat 0 = 0
      · rw [if_pos ez] at h2; cases h2
      · rw [if_neg ez] at h2 ⊢
        simp only [decide_eq_false_iff_not, Int.not_lt] at *
        have px := hw x.toNat
        have py := hw y.toNat
        have pz := hw z.toNat
        generalize w.getD x.toNat 0 = wx at *
        generalize w.getD y.toNat 0 = wy at *
        generalize w.getD z.toNat 0 = wz at *
        generalize v.getD x.toNat 0 = vx at *
        generalize v.getD y.toNat 0 = vy at *
        generalize v.getD z.toNat 0 = vz at *
        have a1 : vz * wy * wx ≤ vy * wz * wx := Int.mul_le_mul_of_nonneg_right h2 px
        have a2 : vy * wx * wz ≤ vx * wy * wz := Int.mul_le_mul_of_nonneg_right h1 pz
        have e1 : vz * wy * wx = wy * (vz * wx) := by rw [Int.mul_comm vz wy, Int.mul_assoc]
        have e2 : vy * wz * wx = vy * wx * wz := by rw [Int.mul_assoc, Int.mul_comm wz wx, ← Int.mul_assoc]
        have e3 : vx * wy * wz = wy * (vx * wz) := by rw [Int.mul_comm vx wy, Int.mul_assoc]
        exact Int.le_of_mul_le_mul_left (by omega : wy * (vz * wx) ≤ wy * (vx * wz)) (by omega)
def byQ (v w : List Int) : List Int := msort (ltq v w) (v.length + 1) (pl v.length)
theorem byQ_perm (v w : List Int) : (byQ v w).Perm (pl v.length) := msort_perm _ _
theorem byQ_len (v w : List Int) : (byQ v w).length = v.length := by rw [(byQ_perm v w).length_eq, pl_len]
theorem byQ_pw (v w : List Int) (hw : ∀ z, 0 ≤ w.getD z 0) : (byQ v w).Pairwise (fun a b => rbo (ltq v w) a b = true) :=
  msort_pw (A := fun _ => True) (rbo_trans (ltq_asym v w) (fun x y z _ _ _ => ltq_le v w hw x y z)) _ _ (by rw [pl_len]; omega) (fun _ _ => trivial) (pl_pw _)
theorem rbq_irr (v w : List Int) (a : Int) : rbo (ltq v w) a a = false := rbo_irr a (by unfold ltq; split; rfl; simp)
theorem rbq_asym (v w : List Int) (a b : Int) (h : rbo (ltq v w) a b = true) : rbo (ltq v w) b a = false := rbo_asym (ltq_asym v w a b) h
/-- What the reference asks. -/
def btr (v w : List Int) (a b : Nat) : Bool :=
  if w.getD a 0 = 0 ∨ w.getD b 0 = 0 then decide (w.getD a 0 = 0 ∧ (w.getD b 0 ≠ 0 ∨ (a : Int) < b))
  else decide (v.getD b 0 * w.getD a 0 < v.getD a 0 * w.getD b 0 ∨ (v.getD a 0 * w.getD b 0 = v.getD b 0 * w.getD a 0 ∧ (a : Int) < b))
theorem rbq_eq (v w : List Int) (a b : Nat) : rbo (ltq v w) (a : Int) (b : Int) = btr v w a b := by
  unfold rbo ltq btr
  rw [Int.toNat_natCast, Int.toNat_natCast]
  generalize w.getD a 0 = wa
  generalize w.getD b 0 = wb
  generalize v.getD a 0 = va
  generalize v.getD b 0 = vb
  by_cases h1 : wa = 0 <;> by_cases h2 : wb = 0 <;> simp [h1, h2]
  by_cases h3 : vb * wa < va * wb
  · simp [h3]
  · by_cases h4 : va * wb < vb * wa
    · have : ¬ va * wb = vb * wa := by omega
      simp [h3, h4, this]
    · have : va * wb = vb * wa := by omega
      simp [this]
theorem btr_irr (v w : List Int) (a : Nat) : btr v w a a = false := by rw [← rbq_eq]; exact rbq_irr v w a
theorem getD_nn {l : List Int} (h : ∀ x ∈ l, 0 ≤ x) (z : Nat) : 0 ≤ l.getD z 0 := by
  rw [List.getD_eq_getElem?_getD]
  cases e : l[z]? with
  | none => exact Int.le_refl _
  | some y => exact h y (List.mem_of_getElem? e)
end Go.Proofs.Ytphpbdnmdhlnoaa
