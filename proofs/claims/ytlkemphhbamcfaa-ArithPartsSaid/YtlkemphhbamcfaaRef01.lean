/-
  The walks of kurganref01: numbers as nine parts of 31 bits, with a sign: what Plus, Minus, Times, Less, Of answer of the parts of two numbers.
-/
import Derived.Test.YtlkemphhbamcfaaRows
import Derived.Test.YtlkemphhbamcfaaLib
import Derived.Test.YtlkemphhbamcfaaBig
import Derived.Test.YtlkemphhbamcfaaInts
namespace Go.Proofs.Ytlkemphhbamcfaa
open Go.RowKit

def bigA (n : Nat) : Array Value := #[.int .i64 (dg n 0), .int .i64 (dg n 1), .int .i64 (dg n 2), .int .i64 (dg n 3), .int .i64 (dg n 4), .int .i64 (dg n 5), .int .i64 (dg n 6), .int .i64 (dg n 7), .int .i64 (dg n 8)]
def zeros9 : Array Value := #[Value.int .i64 0, .int .i64 0, .int .i64 0, .int .i64 0, .int .i64 0, .int .i64 0, .int .i64 0, .int .i64 0, .int .i64 0]
theorem bigA_eq (n : Nat) : bigA n = ints (row 9 (fun i => (dg n i : Int))) := rfl
theorem zeros9_eq : zeros9 = ints (row 9 (fun _ => 0)) := rfl
theorem bigA_get (n : Nat) (i : Nat) (h : i < 9) : (bigA n)[i]? = some (.int .i64 (dg n i)) := by rw [bigA_eq]; exact ints_row_get 9 _ i h

set_option maxHeartbeats 400000 in
theorem plus_any (m n : Nat) (w : World)  :
    Calls Try.prog 57 #[.agg (bigA m), .agg (bigA n)] w fun e w' => e = .returned (.agg (bigA (m+n))) ∧ Below w.heap.size w w' := by
  go_enter Try.func57, Try.ntmps57
  go_wp2
  go_loopw [6, 7] (fun o i W => ∃ k : Nat, k ≤ 9 ∧ i = .int .i64 k ∧ o = .int .i64 (carry m n k) ∧
     blk W w.heap.size (bigA m) 30 ∧ blk W (w.heap.size + 1) (bigA n) 30 ∧ blk W (w.heap.size + 1 + 1) zeros9 30 ∧ blk W (w.heap.size + 1 + 1 + 1) (ints (row 9 (fun i => if i < k then (dg (m+n) i : Int) else 0))) 30 ∧ Below w.heap.size w W)
     (fun _ i _ => 9 - (intOf i).toNat)
  case atStart =>
    refine ⟨0, by omega, by rfl, by rw [carry_zero]; rfl, ?_, ?_, ?_, ?_, ?_⟩
    all_goals first | (repeat (first | (refine blk.at_ ?_ rfl; simp; done) | refine blk.alloc ?_ _)) | skip
    exact ((((Below.refl _ _).alloc (Nat.le_refl _) _).alloc (by simp) _).alloc (by simp; omega) _).alloc (by simp; omega) _
  case round =>
    obtain ⟨k, hk, rfl, rfl, h0, h1, h2, h3, hb⟩ := hrel
    by_cases hlt : k < 9
    · have c0 := h0.cellv (bigA_get m k hlt)
      have c1 := h1.cellv (bigA_get n k hlt)
      have b1 := dg_lt m k
      have b2 := dg_lt n k
      have b3 := carry_le m n k
      have c3 := h3.free k
      have c4 := h3.cellv (ints_row_get 9 _ k hlt)
      have H0 := hid h0; have H1 := hid h1; have H2 := hid h2; have H3 := hid h3; have HB := hid hb
      clear h0 h1 h2 h3 hb
      go_wp2
      go_quiet (fail)
      have hs := plus_step m n k
      have b4 := dg_lt (m+n) k
      have HS := hid hs; clear hs
      go_wp2
      go_roundw
      case rel =>
        have hs := HS.out
        refine ⟨k + 1, by omega, by go_num, ?_, (H0.out.drewN _).off (by omega) _, (H1.out.drewN _).off (by omega) _, (H2.out.drewN _).off (by omega) _, ?_, bset (bdrewN HB.out _) (by omega) _⟩
        · rw [show ((dg m k : Int) + dg n k + carry m n k) / 2147483648 = (carry m n (k+1) : Int) by omega]
        · rw [band31_i64 _ (by omega) (by omega), show ((dg m k : Int) + dg n k + carry m n k) % 2147483648 = (dg (m+n) k : Int) by omega]
          refine (H3.out.drewN _).setTo _ _ (ints_row_set 9 _ _ _ _ ?_)
          intro i hi
          by_cases e : i = k
          · subst e; simp
          · by_cases h : i < k
            · simp [e, h, show i < k + 1 by omega]
            · simp [e, h, show ¬ i < k + 1 by omega]
      case measure => (simp [intOf]; try omega)
    · have hk9 : k = 9 := by omega
      subst hk9
      have f2 : ∀ i, wr.frozen? ⟨w.heap.size + 1 + 1, i, none⟩ = false := fun i => h2.free i
      have c2 : ∀ i, wr.cell? ⟨w.heap.size + 1 + 1, i, none⟩ = zeros9[i]? := fun i => h2.cell i
      have c3 : ∀ i, wr.cell? ⟨w.heap.size + 1 + 1 + 1, i, none⟩ = (bigA (m+n))[i]? := fun i => h3.cell i
      unfold zeros9 at c2
      unfold bigA at c3
      have HB := hid hb
      clear h0 h1 h2 h3 hb
      go_wp2
      refine bodyPost_ret (v := .agg (bigA (m+n))) (by simp [results, Try.results57, go_sem, bigA, c2]) rfl ⟨rfl, ?_⟩
      have hb := HB.out
      (repeat (refine bset ?_ (by omega) _)); exact hb

set_option maxHeartbeats 800000 in
theorem minus_any (m n : Nat) (hmn : n ≤ m) (w : World)  :
    Calls Try.prog 59 #[.agg (bigA m), .agg (bigA n)] w fun e w' => e = .returned (.agg (bigA (m-n))) ∧ Below w.heap.size w w' := by
  go_enter Try.func59, Try.ntmps59
  go_wp2
  go_loopw [6, 7] (fun o i W => ∃ k : Nat, k ≤ 9 ∧ i = .int .i64 k ∧ o = .int .i64 (borrow m n k) ∧
     blk W w.heap.size (bigA m) 30 ∧ blk W (w.heap.size + 1) (bigA n) 30 ∧ blk W (w.heap.size + 1 + 1) zeros9 30 ∧ blk W (w.heap.size + 1 + 1 + 1) (ints (row 9 (fun i => if i < k then (dg (m-n) i : Int) else 0))) 30 ∧ Below w.heap.size w W)
     (fun _ i _ => 9 - (intOf i).toNat)
  case atStart =>
    refine ⟨0, by omega, by rfl, by rw [borrow_zero]; rfl, ?_, ?_, ?_, ?_, ?_⟩
    all_goals first | (repeat (first | (refine blk.at_ ?_ rfl; simp; done) | refine blk.alloc ?_ _)) | skip
    exact ((((Below.refl _ _).alloc (Nat.le_refl _) _).alloc (by simp) _).alloc (by simp; omega) _).alloc (by simp; omega) _
  case round =>
    obtain ⟨k, hk, rfl, rfl, h0, h1, h2, h3, hb⟩ := hrel
    by_cases hlt : k < 9
    · have c0 := h0.cellv (bigA_get m k hlt)
      have c1 := h1.cellv (bigA_get n k hlt)
      have b1 := dg_lt m k
      have b2 := dg_lt n k
      have b3 := borrow_le m n k hmn
      have c3 := h3.free k
      have c4 := h3.cellv (ints_row_get 9 _ k hlt)
      have H0 := hid h0; have H1 := hid h1; have H2 := hid h2; have H3 := hid h3; have HB := hid hb
      clear h0 h1 h2 h3 hb
      have hs := minus_step m n k hmn
      have b4 := dg_lt (m-n) k
      have b5 := borrow_le m n (k+1) hmn
      rcases Nat.lt_or_ge 0 (borrow m n (k+1)) with hone | hzero
      · have hneg : (dg m k : Int) - dg n k - borrow m n k < 0 := by omega
        have HS := hid hs; clear hs
        go_wp2
        go_quiet (fail)
        go_wp2
        go_roundw
        case rel =>
          have hs := HS.out
          refine ⟨k + 1, by omega, by go_num, ?_, (H0.out.drewN _).off (by omega) _, (H1.out.drewN _).off (by omega) _, (H2.out.drewN _).off (by omega) _, ?_, bset (bdrewN HB.out _) (by omega) _⟩
          · rw [show borrow m n (k+1) = 1 by omega]; rfl
          · refine (H3.out.drewN _).setTo _ _ (ints_row_set 9 _ _ _ _ ?_)
            intro i hi
            by_cases e : i = k
            · subst e; simp; omega
            · by_cases h : i < k
              · simp [e, h, show i < k + 1 by omega]
              · simp [e, h, show ¬ i < k + 1 by omega]
        case measure => (simp [intOf]; try omega)
      · have hneg : 0 ≤ (dg m k : Int) - dg n k - borrow m n k := by omega
        have HS := hid hs; clear hs
        go_wp2
        go_quiet (fail)
        go_wp2
        go_roundw
        case rel =>
          have hs := HS.out
          refine ⟨k + 1, by omega, by go_num, ?_, (H0.out.drewN _).off (by omega) _, (H1.out.drewN _).off (by omega) _, (H2.out.drewN _).off (by omega) _, ?_, bset (bdrewN HB.out _) (by omega) _⟩
          · rw [show borrow m n (k+1) = 0 by omega]; rfl
          · refine (H3.out.drewN _).setTo _ _ (ints_row_set 9 _ _ _ _ ?_)
            intro i hi
            by_cases e : i = k
            · subst e; simp; omega
            · by_cases h : i < k
              · simp [e, h, show i < k + 1 by omega]
              · simp [e, h, show ¬ i < k + 1 by omega]
        case measure => (simp [intOf]; try omega)
    · have hk9 : k = 9 := by omega
      subst hk9
      have f2 : ∀ i, wr.frozen? ⟨w.heap.size + 1 + 1, i, none⟩ = false := fun i => h2.free i
      have c2 : ∀ i, wr.cell? ⟨w.heap.size + 1 + 1, i, none⟩ = zeros9[i]? := fun i => h2.cell i
      have c3 : ∀ i, wr.cell? ⟨w.heap.size + 1 + 1 + 1, i, none⟩ = (bigA (m-n))[i]? := fun i => h3.cell i
      unfold zeros9 at c2
      unfold bigA at c3
      have HB := hid hb
      clear h0 h1 h2 h3 hb
      go_wp2
      refine bodyPost_ret (v := .agg (bigA (m-n))) (by simp [results, Try.results59, go_sem, bigA, c2]) rfl ⟨rfl, ?_⟩
      have hb := HB.out
      (repeat (refine bset ?_ (by omega) _)); exact hb


/-- A size that is told by nine parts. -/
def Two200 (n : Nat) : Prop := n < 2^200

set_option maxHeartbeats 800000 in
theorem less_any (m n : Nat) (hm : Two200 m) (hn : Two200 n) (w : World)  :
    Calls Try.prog 58 #[.agg (bigA m), .agg (bigA n)] w fun e w' => e = .returned (.bool (decide (m < n))) ∧ Below w.heap.size w w' := by
  go_enter Try.func58, Try.ntmps58
  go_wp2
  go_loopw [5] (fun i W => ∃ k : Nat, k ≤ 9 ∧ i = .int .i64 ((k : Int) - 1) ∧ m / 2^(31*k) = n / 2^(31*k) ∧
     blk W w.heap.size (bigA m) 30 ∧ blk W (w.heap.size + 1) (bigA n) 30 ∧ Below w.heap.size w W)
     (fun i _ => (intOf i + 1).toNat)
  case atStart =>
    refine ⟨9, by omega, by rfl, by rw [top_zero m hm 9 rfl, top_zero n hn 9 rfl], ?_, ?_, ?_⟩
    all_goals first | (repeat (first | (refine blk.at_ ?_ rfl; simp; done) | refine blk.alloc ?_ _)) | skip
    exact ((Below.refl _ _).alloc (Nat.le_refl _) _).alloc (by simp) _
  case round =>
    obtain ⟨k, hk, rfl, hd, h0, h1, hb⟩ := hrel
    rcases k with _ | k
    · have he : m = n := by simpa using hd
      have H0 := hid h0; have H1 := hid h1; have HB := hid hb; have HD := hid hd; have HE := hid he
      clear h0 h1 hb hd he hm hn
      go_wp2
      go_ret
      exact ⟨ret_bool (by simp [HE.out]), HB.out⟩
    · rw [show ((k + 1 : Nat) : Int) - 1 = (k : Int) by omega]
      have hlt : k < 9 := by omega
      have c0 := h0.cellv (bigA_get m k hlt)
      have c1 := h1.cellv (bigA_get n k hlt)
      have b1 := dg_lt m k
      have b2 := dg_lt n k
      have H0 := hid h0; have H1 := hid h1; have HB := hid hb; have HD := hid hd
      clear h0 h1 hb hd hm hn
      by_cases he : dg m k = dg n k
      · have hx : ((dg m k : Int) != (dg n k : Int)) = false := by simp [he]
        have HE := hid he; clear he
        go_wp2
        go_quiet (fail)
        go_wp2
        go_roundw
        case rel => exact ⟨k, by omega, rfl, eq_step m n k HD.out HE.out, H0.out.drewN _, H1.out.drewN _, bdrewN HB.out _⟩
        case measure => (simp [intOf]; try omega)
      · have hx : ((dg m k : Int) != (dg n k : Int)) = true   := by (simp; try omega)
        have hl := less_step m n k HD.out he
        have HE := hid he; clear he
        have HL := hid hl; clear hl
        go_wp2
        go_quiet (fail)
        go_wp2
        go_quiet (fail)
        go_wp2
        go_ret
        refine ⟨ret_bool (decide_eq_decide.2 ?_), bdrewN (bdrewN HB.out _) _⟩
        have := HL.out
        omega

theorem zero_div31 (n k : Nat) : n / 2^(31*(k+1)) = n / 2^(31*k) / 2147483648 := div31 n k
theorem dg_of_size (n i : Nat) (h : n ≤ 9223372036854775808) (hi : 3 ≤ i) : dg n i = 0 :=
  dg_high n i 3 (Nat.lt_of_le_of_lt h (by decide)) hi

set_option maxHeartbeats 800000 in
theorem of_any (a : Int) (h0 : -9223372036854775808 ≤ a) (h1 : a ≤ 9223372036854775807) (w : World)  :
    Calls Try.prog 61 #[.int .i64 a] w fun e w' => e = .returned (.agg (bigA a.natAbs)) ∧ Below w.heap.size w w' := by
  rcases Int.lt_or_le a 0 with hneg | hpos
  all_goals
    go_enter Try.func61, Try.ntmps61
    go_wp2
    go_loopw [4, 5] (fun u i W => ∃ k : Nat, k ≤ 3 ∧ i = .int .i64 k ∧ u = .int .u64 (a.natAbs / 2^(31*k) : Nat) ∧
       blk W w.heap.size zeros9 30 ∧ blk W (w.heap.size + 1) (ints (row 9 (fun i => if i < k then (dg a.natAbs i : Int) else 0))) 30 ∧ Below w.heap.size w W)
       (fun _ i _ => 3 - (intOf i).toNat)
    case atStart =>
      refine ⟨0, by omega, by rfl, ?_, ?_, ?_, ?_⟩
      · simp only [Nat.mul_zero, Nat.pow_zero, Nat.div_one]
        first | (rw [show (a.natAbs : Int) = a by omega]; done) | (rw [show (a.natAbs : Int) = -a by omega, IntKind.wrap_u64, IntKind.wrap_u64]; congr 1; omega)
      all_goals first | (repeat (first | (refine blk.at_ ?_ rfl; simp; done) | refine blk.alloc ?_ _)) | skip
      exact ((Below.refl _ _).alloc (Nat.le_refl _) _).alloc (by simp) _
    case round =>
      obtain ⟨k, hk, rfl, rfl, h0, h1, hb⟩ := hrel
      by_cases hlt : k < 3
      · have c3 := h1.free k
        have c4 := h1.cellv (ints_row_get 9 _ k (by omega))
        have b4 : a.natAbs / 2^(31*k) ≤ 9223372036854775808 := Nat.le_trans (Nat.div_le_self _ _) (by omega)
        have H0 := hid h0; have H1 := hid h1; have HB := hid hb
        have hd := div31 a.natAbs k
        have HD := hid hd
        clear h0 h1 hb hd
        have hx : a.natAbs / 2^(31*k) % 2147483648 = dg a.natAbs k := rfl
        have HX := hid hx
        clear hx
        generalize a.natAbs / 2^(31*k) = u at *
        go_wp2
        go_roundw
        case rel =>
          rw [band31_u64 _ (by omega) (by omega)]
          have hx := HX.out
          refine ⟨k + 1, by omega, by go_num, ?_, H0.out.off (by omega) _, ?_, bset HB.out (by omega) _⟩
          · rw [HD.out]; congr 1
          · refine H1.out.setTo _ _ (ints_row_set 9 _ _ _ _ ?_)
            intro i hi
            by_cases e : i = k
            · subst e; simp; rw [IntWalk.wrap64_in _ ⟨by omega, by omega⟩]; omega
            · by_cases h : i < k
              · simp [e, h, show i < k + 1 by omega]
              · simp [e, h, show ¬ i < k + 1 by omega]
        case measure => (simp [intOf]; try omega)
      · have hk9 : k = 3 := by omega
        subst hk9
        have h2 := h1.to (cs' := bigA a.natAbs) (by
          rw [bigA_eq]; congr 1; apply row_ext; intro i hi
          by_cases h : i < 3
          · simp [h]
          · simp [h, dg_of_size a.natAbs i (by omega) (by omega)])
        have f2 : ∀ i, wr.frozen? ⟨w.heap.size, i, none⟩ = false := fun i => h0.free i
        have c2 : ∀ i, wr.cell? ⟨w.heap.size, i, none⟩ = zeros9[i]? := fun i => h0.cell i
        have c3 : ∀ i, wr.cell? ⟨w.heap.size + 1, i, none⟩ = (bigA a.natAbs)[i]? := fun i => h2.cell i
        unfold zeros9 at c2
        unfold bigA at c3
        have HB := hid hb
        clear h0 h1 h2 hb
        go_wp2
        refine bodyPost_ret (v := .agg (bigA a.natAbs)) (by simp [results, Try.results61, go_sem, bigA, c2]) rfl ⟨rfl, ?_⟩
        have hb := HB.out
        (repeat (refine bset ?_ (by omega) _)); exact hb

end Go.Proofs.Ytlkemphhbamcfaa
