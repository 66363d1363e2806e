/-
  The text of a problem, in plain Lean. Nothing is assumed.
-/
import Derived.Test.YtakfcekfmdjklaaDoorIns3
import Derived.Lib.Join
import Derived.Lib.ItoaNum
import Derived.Lib.ItoaLen
import Derived.Lib.ItoaMem
namespace Go.Proofs.YtakfcekfmdjklaaDoor
def bs (l : List UInt8) : ByteArray := ⟨l.toArray⟩
theorem bs_app (a b : List UInt8) : bs a ++ bs b = bs (a ++ b) := by
  have h : ∀ x y : ByteArray, x.data.toList = y.data.toList → x = y := fun x y e => by cases x; cases y; simp at e; simp [e]
  apply h
  simp [bs]
theorem bs_size (l : List UInt8) : (bs l).size = l.length := by show l.toArray.size = _; simp
theorem bs_inj {a b : List UInt8} (h : bs a = bs b) : a = b := by
  have := congrArg (fun x : ByteArray => x.data.toList) h
  simpa [bs] using this
def bd64 (n : Int) : Prop := -9223372036854775808 ≤ n ∧ n ≤ 9223372036854775807
def nameB (k : Int) : List UInt8 := if k = 1 then [75, 78, 65, 80, 83, 65, 67, 75] else if k = 2 then [65, 83, 83, 73, 71, 78, 77, 69, 78, 84] else if k = 3 then [84, 83, 80] else []
def lineB (l : List Int) : List UInt8 := Lib.join (l.map Lib.itoa) [32] ++ [10]
def itemsB (i : Ins) : Nat → List UInt8
  | 0 => []
  | k + 1 => itemsB i k ++ lineB [i.wt.getD k 0, i.vl.getD k 0]
def rowsB (i : Ins) : Nat → List UInt8
  | 0 => []
  | k + 1 => rowsB i k ++ lineB (i.cost.getD k [])
def headB (i : Ins) : List UInt8 :=
  if i.kind = 1 then (nameB 1 ++ [32]) ++ lineB [i.n, i.cap]
  else if i.kind = 2 then (nameB 2 ++ [32]) ++ lineB [i.n]
  else (nameB 3 ++ [32]) ++ (((Lib.itoa i.n ++ [32]) ++ [70, 85, 76, 76]) ++ [10])
def textB (i : Ins) : List UInt8 := (if i.kind = 1 then headB i ++ itemsB i i.n.toNat else headB i) ++ rowsB i i.cost.length
theorem itoa_len' {n : Int} (h : bd64 n) : (Lib.itoa n).length ≤ 21 := by
  rcases (show n < 0 ∨ 0 ≤ n by omega) with g | g
  · obtain ⟨A, rfl⟩ : ∃ A : Nat, n = -(A : Int) := ⟨n.natAbs, by omega⟩
    have hA : 1 ≤ A := by omega
    rw [Lib.itoa_neg A hA, List.length_cons, Lib.decDigits_length]
    have := Lib.nDigits_le20 A (by unfold bd64 at h; omega)
    omega
  · obtain ⟨A, rfl⟩ : ∃ A : Nat, n = (A : Int) := ⟨n.toNat, by omega⟩
    rw [Lib.itoa_nonneg A, Lib.decDigits_length]
    have := Lib.nDigits_le20 A (by unfold bd64 at h; omega)
    omega
theorem lens_itoa : ∀ (l : List Int), (∀ x ∈ l, bd64 x) → Lib.lens (l.map Lib.itoa) ≤ 21 * l.length
  | [], _ => by simp [Lib.lens]
  | x :: l, h => by
    have h1 := itoa_len' (h x (.head _))
    have h2 := lens_itoa l (fun y hy => h y (.tail _ hy))
    simp only [Lib.lens, List.map_cons, List.sum_cons, List.length_cons] at h2 ⊢
    omega
theorem join_len {l : List Int} (h : ∀ x ∈ l, bd64 x) : (Lib.join (l.map Lib.itoa) [32]).length ≤ 22 * l.length := by
  cases l with
  | nil => simp [Lib.join_nil]
  | cons x l =>
    have h1 := lens_itoa (x :: l) h
    rw [List.map_cons, Lib.join_length]
    simp only [List.map_cons, List.length_map, List.length_cons, List.length_nil] at h1 ⊢
    omega
theorem lineB_len {l : List Int} (h : ∀ x ∈ l, bd64 x) : (lineB l).length ≤ 22 * l.length + 1 := by
  have := join_len h
  rw [lineB, List.length_append]; simp only [List.length_cons, List.length_nil]; omega
/-- A problem in form. -/
structure InF (i : Ins) : Prop where
  kind : 1 ≤ i.kind ∧ i.kind ≤ 3
  n1 : 1 ≤ i.n
  n64 : i.n ≤ 64
  n24 : i.kind ≠ 1 → i.n ≤ 24
  cap : 0 ≤ i.cap ∧ i.cap ≤ 2147483647
  cap0 : i.kind ≠ 1 → i.cap = 0
  wt : i.wt.length = if i.kind = 1 then i.n.toNat else 0
  vl : i.vl.length = if i.kind = 1 then i.n.toNat else 0
  cost : i.cost.length = if i.kind = 1 then 0 else i.n.toNat
  row : ∀ r, r < i.cost.length → (i.cost.getD r []).length = i.n.toNat
  wtr : ∀ k, 0 ≤ i.wt.getD k 0 ∧ i.wt.getD k 0 ≤ 2147483647
  vlr : ∀ k, 0 ≤ i.vl.getD k 0 ∧ i.vl.getD k 0 ≤ 2147483647
  cell : ∀ r c, 0 ≤ (i.cost.getD r []).getD c 0 ∧ (i.cost.getD r []).getD c 0 ≤ 2147483647
  diag : i.kind = 3 → ∀ r, (i.cost.getD r []).getD r 0 = 0
theorem numE_zero {n : Int} (h : numE n = 0) : 0 ≤ n ∧ n ≤ 2147483647 := by
  unfold numE at h
  split at h
  · cases h
  · split at h
    · cases h
    · omega
theorem getD_out {l : List Int} {k : Nat} (h : l.length ≤ k) : l.getD k 0 = 0 := by rw [List.getD_eq_getElem?_getD, List.getElem?_eq_none h]; rfl
theorem getD_outR {l : List (List Int)} {k : Nat} (h : l.length ≤ k) : l.getD k [] = [] := by rw [List.getD_eq_getElem?_getD, List.getElem?_eq_none h]; rfl
theorem inF_of {i : Ins} (h1 : sizeE i = 0) (h2 : shapeOK i) (h3 : numsE i = 0) : InF i := by
  have hk : 1 ≤ i.kind ∧ i.kind ≤ 3 ∧ 1 ≤ i.n ∧ (i.kind = 1 → i.n ≤ 64) ∧ (i.kind ≠ 1 → i.n ≤ 24) := by
    unfold sizeE at h1
    split at h1
    · cases h1
    · split at h1
      · cases h1
      · split at h1
        · cases h1
        · refine ⟨by omega, by omega, by omega, fun h => by omega, fun h => by omega⟩
  unfold numsE at h3
  rcases h2 with ⟨k1, k2, k3, k4⟩ | ⟨k1, k2, k3, k4, k5, k6⟩
  · rw [if_pos k1] at h3
    have hc : numE i.cap = 0 := by
      by_cases e : numE i.cap = 0
      · exact e
      · rw [if_pos e] at h3; exact h3
    rw [if_neg (by rw [hc]; simp)] at h3
    have hz := pfx_zero h3
    have hw : ∀ k, 0 ≤ i.wt.getD k 0 ∧ i.wt.getD k 0 ≤ 2147483647 := fun k => by
      rcases Nat.lt_or_ge k i.wt.length with g | g
      · have := hz k (by omega)
        unfold itF at this
        split at this
        · rename_i q; exact absurd this q
        · rename_i q; exact numE_zero (Decidable.not_not.1 q)
      · rw [getD_out g]; omega
    have hv : ∀ k, 0 ≤ i.vl.getD k 0 ∧ i.vl.getD k 0 ≤ 2147483647 := fun k => by
      rcases Nat.lt_or_ge k i.vl.length with g | g
      · have := hz k (by omega)
        unfold itF at this
        split at this
        · rename_i q; exact absurd this q
        · exact numE_zero this
      · rw [getD_out g]; omega
    refine ⟨⟨hk.1, hk.2.1⟩, hk.2.2.1, hk.2.2.2.1 k1, hk.2.2.2.2, numE_zero hc, fun h => absurd k1 h, by rw [if_pos k1]; omega, by rw [if_pos k1]; omega, by rw [if_pos k1]; exact k4, fun r hr => by omega, hw, hv, fun r c => ?_, fun h => by omega⟩
    rw [getD_outR (by omega)]
    exact ⟨by simp, by simp⟩
  · rw [if_neg k1] at h3
    have hn := hk.2.2.2.2 k1
    have hz := pfx_zero h3
    have hcell : ∀ r c, r < i.n.toNat → c < i.n.toNat → cellF i r c = 0 := fun r c hr hc => pfx_zero (hz r hr) c hc
    have hcl : ∀ r c, 0 ≤ (i.cost.getD r []).getD c 0 ∧ (i.cost.getD r []).getD c 0 ≤ 2147483647 := fun r c => by
      rcases Nat.lt_or_ge r i.cost.length with g | g
      · have hl := k6 r g
        rcases Nat.lt_or_ge c (i.cost.getD r []).length with g2 | g2
        · have := hcell r c (by omega) (by omega)
          unfold cellF at this
          split at this
          · rename_i q; exact absurd this q
          · rename_i q; exact numE_zero (Decidable.not_not.1 q)
        · rw [getD_out g2]; omega
      · rw [getD_outR g]; exact ⟨by simp, by simp⟩
    refine ⟨⟨hk.1, hk.2.1⟩, hk.2.2.1, by omega, hk.2.2.2.2, by omega, fun _ => k3, by rw [if_neg k1]; exact k4, by rw [if_neg k1]; exact k5, by rw [if_neg k1]; omega, fun r hr => by have := k6 r hr; omega, fun k => ?_, fun k => ?_, hcl, fun h3' r => ?_⟩
    · rw [getD_out (by omega)]; omega
    · rw [getD_out (by omega)]; omega
    · rcases Nat.lt_or_ge r i.cost.length with g | g
      · have := hcell r r (by omega) (by omega)
        unfold cellF at this
        split at this
        · rename_i q; exact absurd this q
        · split at this
          · cases this
          · rename_i q2
            by_cases e : (i.cost.getD r []).getD r 0 = 0
            · exact e
            · exact absurd ⟨⟨h3', rfl⟩, e⟩ q2
      · rw [getD_outR g]; rfl
theorem bd_range {n : Int} (h : 0 ≤ n ∧ n ≤ 2147483647) : bd64 n := by unfold bd64; omega
theorem InF.rowbd {i : Ins} (h : InF i) (r : Nat) : ∀ x ∈ i.cost.getD r [], bd64 x := fun x hx => by
  obtain ⟨c, hc, rfl⟩ := List.mem_iff_getElem.1 hx
  have := h.cell r c
  rw [List.getD_eq_getElem?_getD, List.getElem?_eq_getElem hc] at this
  exact bd_range this
theorem itemsB_len {i : Ins} (h : InF i) : ∀ k, (itemsB i k).length ≤ 45 * k
  | 0 => by simp [itemsB]
  | k + 1 => by
    have h1 := itemsB_len h k
    have h2 := lineB_len (l := [i.wt.getD k 0, i.vl.getD k 0]) (fun x hx => by
      rcases List.mem_cons.1 hx with rfl | hx
      · exact bd_range (h.wtr k)
      · rcases List.mem_cons.1 hx with rfl | hx
        · exact bd_range (h.vlr k)
        · cases hx)
    rw [itemsB, List.length_append]
    simp only [List.length_cons, List.length_nil] at h2
    omega
theorem rowsB_len {i : Ins} (h : InF i) : ∀ k, k ≤ i.cost.length → (rowsB i k).length ≤ 1409 * k
  | 0, _ => by simp [rowsB]
  | k + 1, hk => by
    have h1 := rowsB_len h k (by omega)
    have h2 := lineB_len (h.rowbd k)
    rw [h.row k (by omega)] at h2
    have := h.n64
    rw [rowsB, List.length_append]
    omega
end Go.Proofs.YtakfcekfmdjklaaDoor
