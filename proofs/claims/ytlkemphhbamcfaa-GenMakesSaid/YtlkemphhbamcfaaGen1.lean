/-
  What is drawn, in plain Lean. It leans on Draw's plain definitions alone.
-/
import Derived.Test.YtlkemphhbamcfaaDraw
import Derived.Test.YtlkemphhbamcfaaIns1
namespace Go.Proofs.Ytlkemphhbamcfaa
open Go.RowKit
def sd (s : Int) : Nat → Int
  | 0 => s
  | k + 1 => drawS (sd s k)
def nm (s m : Int) (k : Nat) : Int := drawN (sd s k) m
theorem sd_bd {s : Int} (h : 0 ≤ s ∧ s < 18446744073709551616) : ∀ k, 0 ≤ sd s k ∧ sd s k < 18446744073709551616
  | 0 => h
  | k + 1 => drawS_bd _
theorem nm_bd (s m : Int) (k : Nat) (h : 0 ≤ m) : 0 ≤ nm s m k ∧ nm s m k ≤ m := drawN_bd _ _ h
def nmL (s m : Int) (f : Nat → Nat) (k : Nat) : List Int := (List.range k).map fun j => nm s m (f j)
theorem nmL_len (s m : Int) (f : Nat → Nat) (k : Nat) : (nmL s m f k).length = k := by simp [nmL]
theorem nmL_succ (s m : Int) (f : Nat → Nat) (k : Nat) : nmL s m f k ++ [nm s m (f k)] = nmL s m f (k + 1) := by simp [nmL, List.range_succ]
theorem nmL_get (s m : Int) (f : Nat → Nat) {k j : Nat} (h : j < k) : (nmL s m f k).getD j 0 = nm s m (f j) := by simp [nmL, List.getD, h]
theorem nmL_sum (s m : Int) (f : Nat → Nat) (hm : 0 ≤ m ∧ m ≤ 2147483647) : ∀ k, 0 ≤ (nmL s m f k).sum ∧ (nmL s m f k).sum ≤ k * 2147483647
  | 0 => by simp [nmL]
  | k + 1 => by
    have h := nmL_sum s m f hm k
    have h1 := nm_bd s m (f k) hm.1
    rw [← nmL_succ, List.sum_append]
    simp only [List.sum_cons, List.sum_nil]
    omega
theorem nmL_sumS (s m : Int) (f : Nat → Nat) (k : Nat) : (nmL s m f (k + 1)).sum = (nmL s m f k).sum + nm s m (f k) := by
  rw [← nmL_succ, List.sum_append]; simp
def evn (j : Nat) : Nat := 2 * j
def odd1 (j : Nat) : Nat := 2 * j + 1
/-! ### rows -/
def cb (kd : Int) (a b : Nat) : Nat := if kd = 3 ∧ a < b then b - 1 else b
def rt (kd : Int) (n : Nat) : Nat := if kd = 3 then n - 1 else n
def ent (kd s m : Int) (n a b : Nat) : Int := if kd = 3 ∧ a = b then 0 else nm s m (rt kd n * a + cb kd a b)
def rowF (kd s m : Int) (n a q : Nat) : List Int := (List.range q).map fun b => ent kd s m n a b
def rowsF (kd s m : Int) (n a : Nat) : List (List Int) := (List.range a).map fun a => rowF kd s m n a n
theorem rowF_len (kd s m : Int) (n a q : Nat) : (rowF kd s m n a q).length = q := by simp [rowF]
theorem rowF_succ (kd s m : Int) (n a q : Nat) : rowF kd s m n a q ++ [ent kd s m n a q] = rowF kd s m n a (q + 1) := by simp [rowF, List.range_succ]
theorem rowsF_succ (kd s m : Int) (n a : Nat) : rowsF kd s m n a ++ [rowF kd s m n a n] = rowsF kd s m n (a + 1) := by simp [rowsF, List.range_succ]
theorem cb_zero (kd : Int) (a : Nat) : cb kd a 0 = 0 := by unfold cb; split <;> omega
theorem cb_skip {kd : Int} {a q : Nat} (h : kd = 3 ∧ a = q) : cb kd a (q + 1) = cb kd a q := by
  unfold cb; rw [if_pos (by omega), if_neg (by omega)]; rfl
theorem cb_step {kd : Int} {a q : Nat} (h : ¬ (kd = 3 ∧ a = q)) : cb kd a (q + 1) = cb kd a q + 1 := by
  unfold cb; repeat' split
  all_goals omega
theorem cb_end {kd : Int} {a n : Nat} (h : a < n) : cb kd a n = rt kd n := by
  unfold cb rt; repeat' split
  all_goals omega
theorem ent_skip {kd s m : Int} {n a q : Nat} (h : kd = 3 ∧ a = q) : ent kd s m n a q = 0 := if_pos h
theorem ent_step {kd s m : Int} {n a q : Nat} (h : ¬ (kd = 3 ∧ a = q)) : ent kd s m n a q = nm s m (rt kd n * a + cb kd a q) := if_neg h
/-- The next number laid into a row that is made. -/
theorem grow_set (kd s m : Int) (n a q N : Nat) (h : q < N) : (rowF kd s m n a q ++ List.replicate (N - q) 0).set q (ent kd s m n a q) = rowF kd s m n a (q + 1) ++ List.replicate (N - (q + 1)) 0 := by
  rw [List.set_append_right _ _ (by rw [rowF_len]; exact Nat.le_refl _)]
  rw [rowF_len, Nat.sub_self, show N - q = (N - (q + 1)) + 1 by omega, List.replicate_succ, List.set_cons_zero, ← rowF_succ, List.append_assoc]
  rfl
theorem grow_skip (kd s m : Int) (n a q N : Nat) (h : q < N) (h0 : ent kd s m n a q = 0) : rowF kd s m n a q ++ List.replicate (N - q) 0 = rowF kd s m n a (q + 1) ++ List.replicate (N - (q + 1)) 0 := by
  rw [← rowF_succ, h0, show N - q = (N - (q + 1)) + 1 by omega, List.replicate_succ, List.append_assoc]
  rfl
/-! ### a problem -/
def i0 : Ins := ⟨0, 0, 0, [], [], []⟩
def idn (j : Nat) : Nat := j
def gK (n m s : Int) : Ins := ⟨1, n, min ((nmL s m evn n.toNat).sum / 2) 2147483647, nmL s m evn n.toNat, nmL s m odd1 n.toNat, []⟩
def gR (kd n m s : Int) : Ins := ⟨kd, n, 0, [], [], rowsF kd s m n.toNat n.toNat⟩
def gmk (kd n m s : Int) : Ins × Int :=
  if ¬ (1 ≤ kd ∧ kd ≤ 3) then (i0, 14)
  else if n < 1 ∨ m < 0 ∨ 2147483647 < m then (i0, 1)
  else if n > 64 ∨ (1 < kd ∧ n > 24) then (i0, 5)
  else if kd = 1 then (gK n m s, 0)
  else (gR kd n m s, 0)
section
variable {w0 w w' : World} {F : Nat → Prop} {L : List Ck} {e t : TypeId} {b n : Nat}
theorem Mem.rowOwn {l : List Int} (h : Mem w0 F (pt b (ints l) e :: L) w) (hl : l.length = n) (hm : n ≤ 1000000) : Mem w0 F (orC e ⟨l, some ⟨b, 0, none⟩, n⟩ :: L) w := by
  subst hl
  exact h.ownPt (cap := l.length) (n := l.length) (sz := 1) (xs := l.map (Value.int .i64)) (by simp [ints]) (by unfold maxLen; omega) (Nat.le_refl _) (by rw [Nat.mul_one]; simp only [ints]; rw [List.take_of_length_le (by simp)])
theorem orV_snoc (rs : List OwR) (o : OwR) : rs.map orV ++ [orV o] = (rs ++ [o]).map orV := by simp
theorem len_snoc (rs : List OwR) (o : OwR) : rs.length + 1 = (rs ++ [o]).length := by simp
theorem Y_snoc {rs : List OwR} {kd s m : Int} {n a : Nat} {p : Option Addr} {c : Nat} (h : rs.map (·.Y) = rowsF kd s m n a) : (rs ++ [(⟨rowF kd s m n a n, p, c⟩ : OwR)]).map (·.Y) = rowsF kd s m n (a + 1) := by
  rw [List.map_append, h, ← rowsF_succ]; rfl
theorem Mem.ins0 {eI eR : TypeId} (h : Mem w0 F L w) : Mem w0 F (bundle (insL eI eR i0 none 0 none 0 none 0 []) :: L) w :=
  Mem.pack (cs := insL eI eR i0 none 0 none 0 none 0 []) ((((h.bundleNil (e := eI)).ownNil eR 1).ownNil eI 1).ownNil eI 1)
end
end Go.Proofs.Ytlkemphhbamcfaa
