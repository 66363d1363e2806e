/-
  Signs of texts: how wide they are, how many there are. It holds of every program; nothing is assumed.
-/
import Derived.Test.YtdbbigjoloinpaaDoorDig
namespace Go.Proofs.YtdbbigjoloinpaaDoor
theorem rc_step {s : ByteArray} {p f : Nat} (h : p < s.size) (hf : 0 < f) : Lib.runeCountFrom s f p = 1 + Lib.runeCountFrom s (f - 1) (p + (Utf8.decode s p).2) := by
  obtain ⟨g, rfl⟩ : ∃ g, f = g + 1 := ⟨f - 1, by omega⟩
  simp only [Lib.runeCountFrom]
  rw [if_pos h]; rfl
/-- How wide a sign is: by its bytes. -/
def cnt (s : ByteArray) (i : Nat) (lo hi : Int) : Prop := i < s.size ∧ lo ≤ byt s i ∧ byt s i ≤ hi
instance (s : ByteArray) (i : Nat) (lo hi : Int) : Decidable (cnt s i lo hi) := by unfold cnt; infer_instance
def mw (s : ByteArray) (p : Nat) : Nat :=
  if 194 ≤ byt s p ∧ byt s p ≤ 223 then (if cnt s (p + 1) 128 191 then 2 else 1)
  else if 224 ≤ byt s p ∧ byt s p ≤ 239 then (if cnt s (p + 1) (if byt s p = 224 then 160 else 128) (if byt s p = 237 then 159 else 191) ∧ cnt s (p + 2) 128 191 then 3 else 1)
  else if 240 ≤ byt s p ∧ byt s p ≤ 244 then (if cnt s (p + 1) (if byt s p = 240 then 144 else 128) (if byt s p = 244 then 143 else 191) ∧ cnt s (p + 2) 128 191 ∧ cnt s (p + 3) 128 191 then 4 else 1)
  else 1
theorem decw_pure (b0 b1 b2 b3 : Nat) (n1 n2 n3 : Prop) [Decidable n1] [Decidable n2] [Decidable n3] (h0 : b0 < 256) (h1 : b1 < 256) (h2 : b2 < 256) (h3 : b3 < 256) :
    (if b0 < 0x80 then (b0, 1)
     else if (b0 / 32 == 6 && (decide n1 && b1 / 64 == 2)) = true then (if (b0 % 32) * 64 + b1 % 64 ≥ 0x80 then ((b0 % 32) * 64 + b1 % 64, 2) else (0xFFFD, 1))
     else if (b0 / 16 == 14 && (decide n1 && b1 / 64 == 2) && (decide n2 && b2 / 64 == 2)) = true then (if (b0 % 16) * 4096 + (b1 % 64) * 64 + b2 % 64 ≥ 0x800 ∧ Utf8.valid (((b0 % 16) * 4096 + (b1 % 64) * 64 + b2 % 64 : Nat) : Int) = true then ((b0 % 16) * 4096 + (b1 % 64) * 64 + b2 % 64, 3) else (0xFFFD, 1))
     else if (b0 / 8 == 30 && (decide n1 && b1 / 64 == 2) && (decide n2 && b2 / 64 == 2) && (decide n3 && b3 / 64 == 2)) = true then (if (b0 % 8) * 262144 + (b1 % 64) * 4096 + (b2 % 64) * 64 + b3 % 64 ≥ 0x10000 ∧ Utf8.valid (((b0 % 8) * 262144 + (b1 % 64) * 4096 + (b2 % 64) * 64 + b3 % 64 : Nat) : Int) = true then ((b0 % 8) * 262144 + (b1 % 64) * 4096 + (b2 % 64) * 64 + b3 % 64, 4) else (0xFFFD, 1))
     else ((0xFFFD, 1) : Nat × Nat)).2 =
    (if 194 ≤ b0 ∧ b0 ≤ 223 then (if n1 ∧ 128 ≤ b1 ∧ b1 ≤ 191 then 2 else 1)
     else if 224 ≤ b0 ∧ b0 ≤ 239 then (if (n1 ∧ (if b0 = 224 then 160 else 128) ≤ b1 ∧ b1 ≤ (if b0 = 237 then 159 else 191)) ∧ (n2 ∧ 128 ≤ b2 ∧ b2 ≤ 191) then 3 else 1)
     else if 240 ≤ b0 ∧ b0 ≤ 244 then (if (n1 ∧ (if b0 = 240 then 144 else 128) ≤ b1 ∧ b1 ≤ (if b0 = 244 then 143 else 191)) ∧ (n2 ∧ 128 ≤ b2 ∧ b2 ≤ 191) ∧ (n3 ∧ 128 ≤ b3 ∧ b3 ≤ 191) then 4 else 1)
     else 1) := by
  simp only [Bool.and_eq_true, beq_iff_eq, decide_eq_true_eq, Utf8.valid, Bool.or_eq_true]
  by_cases g1 : n1 <;> by_cases g2 : n2 <;> by_cases g3 : n3 <;> simp only [g1, g2, g3, true_and, false_and, and_false, and_true, if_false]
  all_goals (repeat' split)
  all_goals first | rfl | omega
theorem dec_w (s : ByteArray) (p : Nat) : (Utf8.decode s p).2 = mw s p := by
  have hb : ∀ i, (s.get! i).toNat < 256 := fun i => (s.get! i).toNat_lt
  refine Eq.trans ?_ ((decw_pure (s.get! (p + 0)).toNat (s.get! (p + 1)).toNat (s.get! (p + 2)).toNat (s.get! (p + 3)).toNat (p + 1 < s.size) (p + 2 < s.size) (p + 3 < s.size) (hb _) (hb _) (hb _) (hb _)).trans ?_)
  · simp only [Utf8.decode, Bool.and_eq_true, decide_eq_true_eq]
    rfl
  · unfold mw
    rw [Nat.add_zero]
    repeat' split
    all_goals first | rfl | ((simp only [cnt, byt] at *) <;> omega)
theorem dec_fit {s : ByteArray} {p : Nat} (h : p < s.size) : p + (Utf8.decode s p).2 ≤ s.size := by
  rw [dec_w]
  unfold mw
  repeat' split
  all_goals first | omega | ((simp only [cnt] at *) <;> omega)
theorem dec_nl {s : ByteArray} {p : Nat} (h : p < s.size) : (((Utf8.decode s p).1 : Int) = 10 ↔ byt s p = 10) := by
  have hb := byt_at h
  by_cases ha : (s[p]'h).toNat < 128
  · rw [decode_ascii s p h ha, ← hb]
  · have h2 := (decode_high s p h (by omega)).1
    constructor
    · intro hk; omega
    · intro hk; rw [← hb] at hk; omega
end Go.Proofs.YtdbbigjoloinpaaDoor
