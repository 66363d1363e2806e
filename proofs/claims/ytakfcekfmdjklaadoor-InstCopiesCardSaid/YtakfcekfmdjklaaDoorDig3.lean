/-
  Numerals as lists of bytes. It holds of every program; nothing is assumed.
-/
import Derived.Test.YtakfcekfmdjklaaDoorDig
import Derived.Lib.ItoaNum
import Derived.Lib.ItoaLen
import Derived.Lib.ItoaMem
import Derived.Laws.BytesString
namespace Go.Proofs.YtakfcekfmdjklaaDoor
open Go.RowKit
theorem u8_dig {d : Nat} (h : d < 10) : (UInt8.ofNat (48 + d)).toNat = 48 + d := by
  rw [UInt8.toNat_ofNat']; omega
def dd (M : Nat) : List UInt8 := if M = 0 then [] else Lib.decDigits M
theorem dd_step {M : Nat} (h : M ≠ 0) : dd M = dd (M / 10) ++ [UInt8.ofNat (48 + M % 10)] := by
  unfold dd
  rw [if_neg h, Lib.decDigits]
  split
  · rename_i h10
    rw [if_pos (by omega), show M % 10 = M by omega]; rfl
  · rw [if_neg (by omega)]
theorem dd_dig : ∀ (u : Nat), ∀ c ∈ Lib.decDigits u, 48 ≤ c.toNat ∧ c.toNat ≤ 57 := by
  intro u
  induction u using Nat.strongRecOn with
  | ind u ih =>
    intro c hc
    rw [Lib.decDigits] at hc
    split at hc
    · rename_i h
      obtain rfl : c = UInt8.ofNat (48 + u) := by simpa using hc
      rw [u8_dig h]; omega
    · rename_i h
      rcases List.mem_append.1 hc with hc | hc
      · exact ih (u / 10) (by omega) c hc
      · obtain rfl : c = UInt8.ofNat (48 + u % 10) := by simpa using hc
        rw [u8_dig (by omega)]; omega
def valL (l : List UInt8) : Int := l.foldl (fun a c => a * 10 + ((c.toNat : Int) - 48)) 0
theorem valL_snoc (l : List UInt8) (c : UInt8) : valL (l ++ [c]) = valL l * 10 + ((c.toNat : Int) - 48) := by simp [valL]
theorem dd_val : ∀ u : Nat, valL (Lib.decDigits u) = u := by
  intro u
  induction u using Nat.strongRecOn with
  | ind u ih =>
    rw [Lib.decDigits]
    split
    · rename_i h
      show (0 : Int) * 10 + (((UInt8.ofNat (48 + u)).toNat : Int) - 48) = u
      rw [u8_dig h]; omega
    · rw [valL_snoc, ih (u / 10) (by omega), u8_dig (by omega)]; omega
theorem dd_head : ∀ u : Nat, 0 < u → ∃ c r, Lib.decDigits u = c :: r ∧ 49 ≤ c.toNat := by
  intro u
  induction u using Nat.strongRecOn with
  | ind u ih =>
    intro h0
    rw [Lib.decDigits]
    split
    · rename_i h
      exact ⟨_, [], rfl, by rw [u8_dig h]; omega⟩
    · obtain ⟨c, r, h1, h2⟩ := ih (u / 10) (by omega) (by omega)
      exact ⟨c, r ++ [UInt8.ofNat (48 + u % 10)], by rw [h1]; rfl, h2⟩
theorem dd_pos (u : Nat) : 0 < (Lib.decDigits u).length := by
  rw [Lib.decDigits]
  split
  · exact Nat.one_pos
  · rw [List.length_append]; simp
theorem byt_mk {l : List UInt8} {j : Nat} (h : j < l.length) : byt ⟨l.toArray⟩ j = ((l[j]).toNat : Int) := by
  have h1 : j < (⟨l.toArray⟩ : ByteArray).size := by show j < l.toArray.size; simpa using h
  rw [← byt_at h1]
  rfl
theorem size_mk (l : List UInt8) : (⟨l.toArray⟩ : ByteArray).size = l.length := by show l.toArray.size = _; simp
theorem numv_list (l : List UInt8) : ∀ k, k ≤ l.length → numv ⟨l.toArray⟩ 0 k = valL (l.take k)
  | 0, _ => by simp [numv, valL]
  | k + 1, h => by
    simp only [numv]
    rw [numv_list l k (by omega), Nat.zero_add, byt_mk (by omega), List.take_succ_eq_append_getElem (by omega), valL_snoc]
/-- A numeral with something that is no digit behind it. -/
theorem dgs_list {D R : List UInt8} {x : UInt8} (hd : ∀ c ∈ D, 48 ≤ c.toNat ∧ c.toNat ≤ 57) (hx : ¬ (48 ≤ x.toNat ∧ x.toNat ≤ 57)) : dgs ⟨(D ++ x :: R).toArray⟩ 0 = D.length := by
  refine dgs_uniq (fun j hj => ?_) (fun h => ?_)
  · rw [Nat.zero_add]
    have hl : j < (D ++ x :: R).length := by rw [List.length_append]; omega
    refine ⟨by rw [size_mk]; exact hl, ?_⟩
    rw [byt_mk hl, List.getElem_append_left hj]
    have := hd _ (List.getElem_mem hj)
    omega
  · rw [Nat.zero_add] at h
    have hl : D.length < (D ++ x :: R).length := by rw [List.length_append, List.length_cons]; omega
    have h2 := h.2
    rw [byt_mk hl, List.getElem_append_right (Nat.le_refl _)] at h2
    simp at h2
    exact hx (by omega)
theorem ba_join (D : List UInt8) (c : ByteArray) : ((⟨D.toArray⟩ : ByteArray) ++ ⟨#[120]⟩) ++ c = ⟨(D ++ 120 :: c.data.toList).toArray⟩ := by
  apply ByteArray.ext
  rw [ByteArray.data_append, ByteArray.data_append]
  apply Array.toList_inj.1
  simp
theorem ba_cons (c : UInt8) (S : List UInt8) : (⟨#[c]⟩ : ByteArray) ++ ⟨S.toArray⟩ = ⟨(c :: S).toArray⟩ := by
  apply ByteArray.ext
  rw [ByteArray.data_append]
  apply Array.toList_inj.1
  simp
theorem rd_pos (A : Nat) (R : List UInt8) : readI ⟨(Lib.decDigits A ++ 120 :: R).toArray⟩ 0 = if 18 < (Lib.decDigits A).length then (0, 0, 5) else ((A : Int), ((Lib.decDigits A).length : Int), 0) := by
  have hd : dgs ⟨(Lib.decDigits A ++ 120 :: R).toArray⟩ 0 = (Lib.decDigits A).length := dgs_list (dd_dig A) (by decide)
  have hn : numv ⟨(Lib.decDigits A ++ 120 :: R).toArray⟩ 0 (Lib.decDigits A).length = A := by
    rw [numv_list _ _ (by rw [List.length_append]; omega), List.take_append_of_le_length (Nat.le_refl _), List.take_length, dd_val]
  have hp := dd_pos A
  have hb : 1 < (Lib.decDigits A).length → byt ⟨(Lib.decDigits A ++ 120 :: R).toArray⟩ 0 ≠ 48 := by
    intro h1
    have hA : 0 < A := by
      rcases Nat.eq_zero_or_pos A with e | e
      · subst e; rw [Lib.decDigits_one (by decide)] at h1; simp at h1
      · exact e
    obtain ⟨c, r, h2, h3⟩ := dd_head A hA
    rw [h2, byt_mk (by simp)]
    simp only [List.cons_append, List.getElem_cons_zero]
    omega
  unfold readI
  simp only [Int.toNat_zero, hd, hn]
  rw [if_neg (by rw [size_mk]; omega), if_neg (by intro h; rcases h with h | h; omega; exact hb h.1 h.2)]
  split
  · rfl
  · simp
theorem rd_neg (S : List UInt8) : readI ⟨(45 :: S).toArray⟩ 0 = (0, 0, 4) := by
  have hd : dgs ⟨(45 :: S).toArray⟩ 0 = 0 := dgs_list (D := []) (R := S) (x := 45) (by simp) (by decide)
  unfold readI
  simp only [Int.toNat_zero, hd]
  rw [if_neg (by rw [size_mk]; omega), if_pos (by simp)]
theorem itoa_n {A : Nat} {n : Int} (e : n = -(A : Int)) (h : 1 ≤ A) : Lib.itoa n = 45 :: Lib.decDigits A := by rw [e]; exact Lib.itoa_neg A h
theorem itoa_p {A : Nat} {n : Int} (e : n = (A : Int)) : Lib.itoa n = Lib.decDigits A := by rw [e]; exact Lib.itoa_nonneg A
theorem itoa_cases (n : Int) : (n < 0 ∧ ∃ A : Nat, n = -(A : Int) ∧ 1 ≤ A ∧ Lib.itoa n = 45 :: Lib.decDigits A) ∨ (0 ≤ n ∧ ∃ A : Nat, n = (A : Int) ∧ Lib.itoa n = Lib.decDigits A) := by
  rcases (show n < 0 ∨ 0 ≤ n by omega) with h | h
  · exact .inl ⟨h, n.natAbs, by omega, by omega, itoa_n (by omega) (by omega)⟩
  · exact .inr ⟨h, n.natAbs, by omega, itoa_p (by omega)⟩
theorem rdi_neg {n : Int} (h : n < 0) (R : List UInt8) : readI ⟨(Lib.itoa n ++ 120 :: R).toArray⟩ 0 = (0, 0, 4) := by
  rcases itoa_cases n with ⟨_, A, _, _, e⟩ | ⟨h0, _⟩
  · rw [e]; exact rd_neg _
  · omega
theorem rdi_big {n : Int} (h : ¬ n < 0) (h2 : (18 : Int) < ((⟨(Lib.itoa n).toArray⟩ : ByteArray).size : Int)) (R : List UInt8) : readI ⟨(Lib.itoa n ++ 120 :: R).toArray⟩ 0 = (0, 0, 5) := by
  rw [size_mk] at h2
  rcases itoa_cases n with ⟨h0, _⟩ | ⟨_, A, e0, e⟩
  · exact absurd h0 h
  · rw [e] at h2 ⊢; rw [rd_pos, if_pos (by omega)]
theorem rdi_ok {n : Int} (h : ¬ n < 0) (h2 : ¬ (18 : Int) < ((⟨(Lib.itoa n).toArray⟩ : ByteArray).size : Int)) (R : List UInt8) : readI ⟨(Lib.itoa n ++ 120 :: R).toArray⟩ 0 = (n, ((⟨(Lib.itoa n).toArray⟩ : ByteArray).size : Int), 0) := by
  rw [size_mk] at h2 ⊢
  rcases itoa_cases n with ⟨h0, _⟩ | ⟨_, A, e0, e⟩
  · exact absurd h0 h
  · rw [e] at h2 ⊢; rw [rd_pos, if_neg (by omega), e0]
theorem dd_len20 {A : Nat} (h : A ≤ 9223372036854775808) : (Lib.decDigits A).length ≤ 20 := by rw [Lib.decDigits_length]; exact Lib.nDigits_le20 A (by omega)
theorem itoa_len {n : Int} (h : -9223372036854775808 ≤ n ∧ n ≤ 9223372036854775807) : (⟨(Lib.itoa n).toArray⟩ : ByteArray).size ≤ 21 := by
  rw [size_mk]
  rcases itoa_cases n with ⟨_, A, e0, _, e⟩ | ⟨_, A, e0, e⟩
  · rw [e, List.length_cons]; have := dd_len20 (A := A) (by omega); omega
  · rw [e]; have := dd_len20 (A := A) (by omega); omega
theorem dd_more {M A : Nat} {S : List UInt8} (h : dd M ++ S = Lib.decDigits A) (hA : A ≤ 9223372036854775808) : S.length ≤ 20 ∧ (M ≠ 0 → S.length < 20) := by
  have h1 := dd_len20 hA
  rw [← h, List.length_append] at h1
  refine ⟨by omega, fun hM => ?_⟩
  have h2 : 0 < (dd M).length := by unfold dd; rw [if_neg hM]; exact dd_pos M
  omega
theorem dd_next {M A : Nat} {S : List UInt8} (h : dd M ++ S = Lib.decDigits A) (hM : M ≠ 0) : dd (M / 10) ++ (UInt8.ofNat (48 + M % 10) :: S) = Lib.decDigits A := by
  rw [← h, dd_step hM]; simp
section
variable {P : Program} {l : List (Nat × Value)} {w w0 : World} {F : Nat → Prop} {L : List Ck} {ty src dst : TypeId} {x : Operand}
theorem R.byteStr {e t' : TypeId} {b k : Nat} {n : Int} (hM : Mem w0 F L w) (hk : ith L k = some (pt b #[.int .u8 n] t')) (hs : P.underlying src = some (.slice e)) (he : P.underlying e = some (.int .u8)) (hd : P.underlying dst = some .string) (hx : opv l x = some (.slice (some ⟨b, 0, none⟩) 1 1)) :
    Run P l w (.convert src dst x) ty (.string ⟨#[UInt8.ofNat n.toNat]⟩) w := fun ev h _ _ _ _ => by
  have h1 := run_convert_bytes_string (P := P) w src dst e (some ⟨b, 0, none⟩) 1 1 hs he hd
  have h2 : (Conv.bytesToString (.slice (some ⟨b, 0, none⟩) 1 1)).run P w = .ok (.string ⟨#[UInt8.ofNat n.toNat]⟩) w := by
    have hb : w.heap[b]? = some (.cells #[.int .u8 n] t' (0, 0)) := hM.block hk
    have hc : w.cell? ⟨b, 0, none⟩ = some (.int .u8 n) := by simp [World.cell?, hb]
    have h3 : (loadCells ⟨b, 0, none⟩ 1).run P w = .ok #[.int .u8 n] w := run_loadCells_list w ⟨b, 0, none⟩ [.int .u8 n] (fun j v hj => by
      cases j with
      | zero => simp only [List.getElem?_cons_zero, Option.some.injEq] at hj; subst hj; exact hc
      | succ j => simp at hj)
    exact run_bytesToString w ⟨b, 0, none⟩ 1 1 [n] h3
  simp [execOp, h _ _ hx, h1, h2]
end
end Go.Proofs.YtakfcekfmdjklaaDoor
