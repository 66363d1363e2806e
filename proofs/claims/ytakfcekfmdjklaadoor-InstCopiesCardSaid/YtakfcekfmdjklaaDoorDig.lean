/-
  Digits and signs of texts in plain numbers. It holds of every program; nothing is assumed.
-/
import Derived.Test.YtakfcekfmdjklaaDoorEngS
namespace Go.Proofs.YtakfcekfmdjklaaDoor

def kindI (r : Int) : Int :=
  if r = 32 ∨ r = 9 ∨ r = 10 ∨ r = 13 then 1 else if 48 ≤ r ∧ r ≤ 57 then 2 else if (65 ≤ r ∧ r ≤ 90) ∨ (97 ≤ r ∧ r ≤ 122) then 3 else if r = 35 then 4 else 0
def dig (s : ByteArray) (i : Nat) : Prop := i < s.size ∧ 48 ≤ byt s i ∧ byt s i ≤ 57
instance (s : ByteArray) (i : Nat) : Decidable (dig s i) := by unfold dig; infer_instance
def dgF (s : ByteArray) : Nat → Nat → Nat
  | 0, _ => 0
  | f + 1, i => if dig s i then dgF s f (i + 1) + 1 else 0
/-- How many digits stand from a place on. -/
def dgs (s : ByteArray) (i : Nat) : Nat := dgF s (s.size - i) i
theorem dgF_spec (s : ByteArray) : ∀ f i, s.size ≤ i + f → (∀ j, j < dgF s f i → dig s (i + j)) ∧ ¬ dig s (i + dgF s f i)
  | 0, i, h => ⟨fun j hj => absurd hj (Nat.not_lt_zero j), fun hd => by have := hd.1; simp only [dgF] at this; omega⟩
  | f + 1, i, h => by
    simp only [dgF]
    by_cases hd : dig s i
    · rw [if_pos hd]
      obtain ⟨h1, h2⟩ := dgF_spec s f (i + 1) (by omega)
      refine ⟨fun j hj => ?_, ?_⟩
      · match j with
        | 0 => exact hd
        | j + 1 => have := h1 j (by omega); rwa [show i + (j + 1) = i + 1 + j by omega]
      · rwa [show i + (dgF s f (i + 1) + 1) = i + 1 + dgF s f (i + 1) by omega]
    · rw [if_neg hd]
      exact ⟨fun j hj => absurd hj (Nat.not_lt_zero j), hd⟩
theorem dgs_spec (s : ByteArray) (i : Nat) : (∀ j, j < dgs s i → dig s (i + j)) ∧ ¬ dig s (i + dgs s i) := dgF_spec s (s.size - i) i (by omega)
theorem dgs_uniq {s : ByteArray} {i k : Nat} (h1 : ∀ j, j < k → dig s (i + j)) (h2 : ¬ dig s (i + k)) : dgs s i = k := by
  obtain ⟨g1, g2⟩ := dgs_spec s i
  rcases Nat.lt_trichotomy (dgs s i) k with h | h | h
  · exact absurd (h1 _ h) g2
  · exact h
  · exact absurd (g1 _ h) h2
theorem dgs_le (s : ByteArray) {i : Nat} (hi : i ≤ s.size) : i + dgs s i ≤ s.size := by
  obtain ⟨g1, -⟩ := dgs_spec s i
  rcases Nat.eq_zero_or_pos (dgs s i) with h | h
  · omega
  · have := (g1 (dgs s i - 1) (by omega)).1; omega
theorem byt_ext {s : ByteArray} {x y i : Nat} (h : x + i < y) (hb : y ≤ s.size) : byt (s.extract x y) i = byt s (x + i) := by
  have h1 : i < (s.extract x y).size := by rw [ByteArray.size_extract]; omega
  rw [← byt_at h1, ← byt_at (show x + i < s.size by omega)]
  congr 2
  exact ByteArray.getElem_extract ..
theorem size_ext {s : ByteArray} {x y : Nat} (hb : y ≤ s.size) : (s.extract x y).size = y - x := by rw [ByteArray.size_extract]; omega
theorem dig_ext {s : ByteArray} {x i : Nat} : dig (s.extract x s.size) i ↔ dig s (x + i) := by
  unfold dig
  rw [size_ext (Nat.le_refl _)]
  constructor
  · intro ⟨h1, h2⟩
    rw [byt_ext (by omega) (Nat.le_refl _)] at h2
    exact ⟨by omega, h2⟩
  · intro ⟨h1, h2⟩
    rw [byt_ext (by omega) (Nat.le_refl _)]
    exact ⟨by omega, h2⟩
theorem dgs_ext (s : ByteArray) (x : Nat) : dgs (s.extract x s.size) 0 = dgs s x := by
  obtain ⟨g1, g2⟩ := dgs_spec s x
  exact dgs_uniq (fun j hj => by rw [Nat.zero_add]; exact dig_ext.2 (g1 j hj)) (fun h => by rw [Nat.zero_add] at h; exact g2 (dig_ext.1 h))
/-- What a sign is at a place, as to digits. -/
theorem dec_dig {s : ByteArray} {p : Nat} (h : p < s.size) : (kindI (Utf8.decode s p).1 = 2 ↔ dig s p) ∧ (dig s p → (Utf8.decode s p).2 = 1 ∧ ((Utf8.decode s p).1 : Int) = byt s p) := by
  have hb := byt_at h
  by_cases ha : (s[p]'h).toNat < 128
  · rw [decode_ascii s p h ha]
    refine ⟨?_, fun _ => ⟨rfl, hb⟩⟩
    unfold dig
    rw [← hb]
    unfold kindI
    constructor
    · intro hk
      refine ⟨h, ?_⟩
      revert hk
      repeat' split
      all_goals (intro hk; first | omega | (simp at hk))
    · intro ⟨_, h1, h2⟩
      rw [if_neg (by omega), if_pos ⟨h1, h2⟩]
  · have h2 := (decode_high s p h (by omega)).1
    have hn : ¬ dig s p := fun hd => by have := hd.2.2; rw [← hb] at this; omega
    refine ⟨⟨fun hk => ?_, fun hd => absurd hd hn⟩, fun hd => absurd hd hn⟩
    exfalso
    revert hk
    unfold kindI
    repeat' split
    all_goals (intro hk; first | omega | (simp at hk))
/-- The number that some digits tell. -/
def numv (s : ByteArray) (x : Nat) : Nat → Int
  | 0 => 0
  | j + 1 => numv s x j * 10 + (byt s (x + j) - 48)
theorem numv_bd {s : ByteArray} {x : Nat} : ∀ {k : Nat}, (∀ j, j < k → dig s (x + j)) → 0 ≤ numv s x k ∧ numv s x k < 10 ^ k
  | 0, _ => ⟨Int.le_refl _, by show (0 : Int) < 10 ^ 0; decide⟩
  | k + 1, h => by
    obtain ⟨h1, h2⟩ := numv_bd (k := k) (fun j hj => h j (by omega))
    have hd := (h k (by omega)).2
    have e : (10 : Int) ^ (k + 1) = 10 ^ k * 10 := Int.pow_succ ..
    simp only [numv]
    rw [e]
    generalize (10 : Int) ^ k = t at *
    omega
theorem numv_lt {s : ByteArray} {x k : Nat} (h : ∀ j, j < k → dig s (x + j)) (hk : k ≤ 17) : 0 ≤ numv s x k ∧ numv s x k < 100000000000000000 := by
  obtain ⟨h1, h2⟩ := numv_bd h
  have : (10 : Int) ^ k ≤ 10 ^ 17 := by
    have h3 : (10 : Nat) ^ k ≤ 10 ^ 17 := Nat.pow_le_pow_right (by decide) hk
    exact_mod_cast h3
  refine ⟨h1, Int.lt_of_lt_of_le h2 (Int.le_trans this (by decide))⟩
/-- What is read at a place: the number, the next place, the error. -/
def readI (s : ByteArray) (p : Int) : Int × Int × Int :=
  if p < 0 ∨ (s.size : Int) < p then (0, 0, 1)
  else if dgs s p.toNat = 0 ∨ (1 < dgs s p.toNat ∧ byt s p.toNat = 48) then (0, 0, 4)
  else if 18 < dgs s p.toNat then (0, 0, 5)
  else (numv s p.toNat (dgs s p.toNat), p + dgs s p.toNat, 0)
/-! ### places -/
def plF (s : ByteArray) (q : Int) : Nat → Nat → Int → Int → Int × Int
  | 0, _, l, c => (l, c)
  | f + 1, p, l, c => if p < s.size ∧ (p : Int) < q then plF s q f (p + (Utf8.decode s p).2) (if ((Utf8.decode s p).1 : Int) = 10 then l + 1 else l) (if ((Utf8.decode s p).1 : Int) = 10 then 1 else c + 1) else (l, c)
/-- The line and the column of a byte. -/
def plI (s : ByteArray) (q : Int) : Int × Int := plF s q s.size 0 1 1
theorem plF_stop {s : ByteArray} {q : Int} {p : Nat} (h : ¬ (p < s.size ∧ (p : Int) < q)) (l c : Int) : ∀ f, plF s q f p l c = (l, c)
  | 0 => rfl
  | f + 1 => by simp only [plF]; rw [if_neg h]
theorem plF_step {s : ByteArray} {q : Int} {p f : Nat} (h : p < s.size) (hq : (p : Int) < q) (hf : 0 < f) (l c : Int) : plF s q f p l c = plF s q (f - 1) (p + (Utf8.decode s p).2) (if ((Utf8.decode s p).1 : Int) = 10 then l + 1 else l) (if ((Utf8.decode s p).1 : Int) = 10 then 1 else c + 1) := by
  obtain ⟨g, rfl⟩ : ∃ g, f = g + 1 := ⟨f - 1, by omega⟩
  simp only [plF]
  rw [if_pos ⟨h, hq⟩]
  rfl
end Go.Proofs.YtakfcekfmdjklaaDoor
