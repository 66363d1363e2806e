/-
  What a scan's tokens are. It holds of every program; nothing is assumed.
-/
import Derived.Test.YtdbbigjoloinpaaDoorLex1
namespace Go.Proofs.YtdbbigjoloinpaaDoor
open Go.RowKit
/-- A token stands where it says. -/
def tokOK (s : ByteArray) (t : Tok) : Prop :=
  (t.k = 1 ∨ t.k = 2) ∧ 0 ≤ t.a ∧ t.a + t.x.size ≤ s.size ∧ (t.k = 1 → s.extract t.a.toNat (t.a + t.x.size).toNat = t.x)
/-- The tokens ahead of a place rise. -/
def TI (s : ByteArray) (X : List Tok) (p : Nat) : Prop :=
  (∀ i, i < X.length → tokOK s (X.getD i tz) ∧ (X.getD i tz).a < p) ∧ ∀ i j, i < j → j < X.length → (X.getD i tz).a < (X.getD j tz).a
theorem getD_app1 {X : List Tok} {t : Tok} {i : Nat} (h : i < X.length) : (X ++ [t]).getD i tz = X.getD i tz := by
  simp [List.getD, List.getElem?_append_left h]
theorem getD_app2 {X : List Tok} {t : Tok} : (X ++ [t]).getD X.length tz = t := by
  simp [List.getD]
theorem TI.nil (s : ByteArray) : TI s [] 0 := ⟨fun i h => absurd h (Nat.not_lt_zero i), fun _ j _ h => absurd h (Nat.not_lt_zero j)⟩
theorem TI.mono {s : ByteArray} {X : List Tok} {p q : Nat} (h : TI s X p) (hq : p ≤ q) : TI s X q := ⟨fun i hi => ⟨(h.1 i hi).1, by have := (h.1 i hi).2; omega⟩, h.2⟩
theorem TI.snoc {s : ByteArray} {X : List Tok} {p q : Nat} {t : Tok} (h : TI s X p) (hq : p < q) (ht : tokOK s t) (ha : t.a = p) : TI s (X ++ [t]) q := by
  refine ⟨fun i hi => ?_, fun i j hij hj => ?_⟩
  · rw [List.length_append, List.length_singleton] at hi
    rcases Nat.lt_or_ge i X.length with g | g
    · rw [getD_app1 g]; exact ⟨(h.1 i g).1, by have := (h.1 i g).2; omega⟩
    · obtain rfl : i = X.length := by omega
      rw [getD_app2]; exact ⟨ht, by omega⟩
  · rw [List.length_append, List.length_singleton] at hj
    rcases Nat.lt_or_ge j X.length with g | g
    · rw [getD_app1 g, getD_app1 (by omega)]; exact h.2 i j hij g
    · obtain rfl : j = X.length := by omega
      rw [getD_app2, getD_app1 hij, ha]; exact (h.1 i hij).2
theorem lst_TI {s : ByteArray} {X : List Tok} {p : Nat} (hp : p < s.size) (h : TI s X p) (he : (lst s p).1 = 0) : TI s (X ++ (lst s p).2.2) (lst s p).2.1 := by
  rcases kb_rng s p with hk | hk | hk | hk | hk
  · rw [lst_0 hk] at he; simp at he
  · rw [lst_1 hk, List.append_nil]; exact h.mono (Nat.le_succ _)
  · rw [lst_2 hk] at he ⊢
    by_cases h1 : 1 < dgs s p ∧ byt s p = 48
    · rw [if_pos h1] at he; simp at he
    · rw [if_neg h1] at he ⊢
      by_cases h2 : 18 < dgs s p
      · rw [if_pos h2] at he; simp at he
      · rw [if_neg h2]
        have := dgs_pos hk
        have := dgs_le s (Nat.le_of_lt hp)
        refine h.snoc (show p < p + dgs s p by omega) ⟨.inr rfl, ?_, ?_, fun e => ?_⟩ rfl
        · show (0 : Int) ≤ p; omega
        · show (p : Int) + (0 : Nat) ≤ s.size; omega
        · have e' : (2 : Int) = 1 := e
          omega
  · rw [lst_3 hk] at he ⊢
    by_cases h1 : 16 < ltrs s p
    · rw [if_pos h1] at he; simp at he
    · rw [if_neg h1]
      have := ltrs_pos hk
      have hle := ltrs_le s (Nat.le_of_lt hp)
      have hx : (s.extract p (p + ltrs s p)).size = ltrs s p := by rw [size_ext hle]; omega
      refine h.snoc (show p < p + ltrs s p by omega) ⟨.inl rfl, ?_, ?_, fun _ => ?_⟩ rfl
      · show (0 : Int) ≤ p; omega
      · show (p : Int) + ((s.extract p (p + ltrs s p)).size : Nat) ≤ s.size; rw [hx]; omega
      · show s.extract (p : Int).toNat ((p : Int) + ((s.extract p (p + ltrs s p)).size : Nat)).toNat = s.extract p (p + ltrs s p)
        rw [hx]; congr 1
  · rw [lst_4 hk, List.append_nil]; exact h.mono (Nat.le_add_right _ _)
theorem scF_TI (s : ByteArray) : ∀ f p X, s.size ≤ p + f → p ≤ s.size → TI s X p → ((scF s f p X).2.2 = 0 → ∃ Y, (scF s f p X) = (Y ++ [tend s], 0, 0) ∧ TI s Y s.size) ∧ ((scF s f p X).2.2 ≠ 0 → (scF s f p X).1 = [])
  | 0, p, X, h0, h1, h => by
    refine ⟨fun _ => ⟨X, rfl, h.mono h1⟩, fun he => absurd rfl he⟩
  | f + 1, p, X, h0, h1, h => by
    by_cases hp : p < s.size
    · by_cases he : (lst s p).1 = 0
      · have hbd := lst_bd hp
        have := hbd.2.2.1 he
        rw [scF_go hp (Nat.succ_pos f) he]
        exact scF_TI s f _ _ (by omega) hbd.2.1 (lst_TI hp h he)
      · rw [scF_err hp (Nat.succ_pos f) he]
        exact ⟨fun h => absurd h he, fun _ => rfl⟩
    · rw [scF_end hp]
      exact ⟨fun _ => ⟨X, rfl, h.mono h1⟩, fun he => absurd rfl he⟩
theorem scan_TI (s : ByteArray) : ((scan s).2.2 = 0 → ∃ Y, scan s = (Y ++ [tend s], 0, 0) ∧ TI s Y s.size) ∧ ((scan s).2.2 ≠ 0 → (scan s).1 = []) := by
  unfold scan
  split
  · exact ⟨fun h => absurd h (by decide), fun _ => rfl⟩
  · exact scF_TI s _ _ _ (by omega) (by omega) (TI.nil s)
theorem scan_rise {s : ByteArray} (he : (scan s).2.2 = 0) {i : Nat} (hi : i + 1 < (scan s).1.length) : tokOK s ((scan s).1.getD i tz) ∧ ((scan s).1.getD i tz).a < ((scan s).1.getD (i + 1) tz).a := by
  obtain ⟨Y, hY, h1, h2⟩ := (scan_TI s).1 he
  rw [hY] at hi ⊢
  simp only [List.length_append, List.length_singleton] at hi
  refine ⟨?_, ?_⟩
  · show tokOK s ((Y ++ [tend s]).getD i tz)
    rw [getD_app1 (by omega)]; exact (h1 i (by omega)).1
  · show ((Y ++ [tend s]).getD i tz).a < ((Y ++ [tend s]).getD (i + 1) tz).a
    rw [getD_app1 (by omega)]
    rcases Nat.lt_or_ge (i + 1) Y.length with g | g
    · rw [getD_app1 g]; exact h2 _ _ (Nat.lt_succ_self i) g
    · rw [show i + 1 = Y.length by omega, getD_app2]; exact (h1 i (by omega)).2
theorem scan_last {s : ByteArray} (he : (scan s).2.2 = 0) : 0 < (scan s).1.length ∧ (scan s).1.getD ((scan s).1.length - 1) tz = tend s := by
  obtain ⟨Y, hY, -⟩ := (scan_TI s).1 he
  rw [hY]
  refine ⟨by simp, ?_⟩
  show (Y ++ [tend s]).getD ((Y ++ [tend s]).length - 1) tz = tend s
  rw [List.length_append, List.length_singleton, Nat.add_sub_cancel, getD_app2]
end Go.Proofs.YtdbbigjoloinpaaDoor
