/-
  The walk of kurganref01.Times: of two sizes of at most four parts.
-/
import Derived.Test.YtlkemphhbamcfaaRef01
namespace Go.Proofs.Ytlkemphhbamcfaa
open Go.RowKit

theorem dg_mul (m i n k : Nat) : 0 ≤ (dg m i : Int) * (dg n k : Int) ∧ (dg m i : Int) * (dg n k : Int) ≤ 4611686014132420609 := by
  have h1 := dg_lt m i
  have h2 := dg_lt n k
  generalize dg m i = x at *
  generalize dg n k = y at *
  refine ⟨Int.mul_nonneg (by omega) (by omega), ?_⟩
  have h3 : (x : Int) * y ≤ 2147483647 * y := Int.mul_le_mul_of_nonneg_right (by omega) (by omega)
  omega
theorem times_stepI (P x n i k : Nat) : (dg P (i+k) : Int) + (x : Int) * (dg n k : Int) + (tover P x n i k : Int) = (dg (tim P x n i (k+1)) (i+k) : Int) + 2147483648 * (tover P x n i (k+1) : Int) := by
  have h := congrArg (fun z : Nat => (z : Int)) (times_step P x n i k)
  simpa only [Int.natCast_add, Int.natCast_mul, Int.cast_ofNat_Int] using h
/-- A size of at most four parts. -/
def Four (n : Nat) : Prop := n < 2^(31*4)

set_option maxHeartbeats 1600000 in
theorem times_any (m n : Nat) (hm : Four m) (hn : Four n) (w : World)  :
    Calls Try.prog 60 #[.agg (bigA m), .agg (bigA n)] w fun e w' => e = .returned (.agg (bigA (m*n))) ∧ Below w.heap.size w w' := by
  go_enter Try.func60, Try.ntmps60
  go_wp2
  go_loopw [6] (fun i W => ∃ k : Nat, k ≤ 4 ∧ i = .int .i64 k ∧
     blk W w.heap.size (bigA m) 30 ∧ blk W (w.heap.size + 1) (bigA n) 30 ∧ blk W (w.heap.size + 1 + 1) zeros9 30 ∧ blk W (w.heap.size + 1 + 1 + 1) (bigA (low m k * n)) 30 ∧ Below w.heap.size w W)
     (fun i _ => 4 - (intOf i).toNat)
  case atStart =>
    refine ⟨0, by omega, by rfl, ?_, ?_, ?_, ?_, ?_⟩
    all_goals try rw [low_zero, Nat.zero_mul]
    all_goals first | (repeat (first | (refine blk.at_ ?_ (by simp [bigA, dg, zeros9]); simp; done) | (refine blk.at_ ?_ rfl; simp; done) | refine blk.alloc ?_ _)) | skip
    exact ((((Below.refl _ _).alloc (Nat.le_refl _) _).alloc (by simp) _).alloc (by simp; omega) _).alloc (by simp; omega) _
  case round =>
    obtain ⟨i, hi, rfl, h0, h1, h2, h3, hb⟩ := hrel
    by_cases hlt : i < 4
    · have hx := dg_lt m i
      have H0 := hid h0; have H1 := hid h1; have H2 := hid h2; have H3 := hid h3; have HB := hid hb;
      clear h0 h1 h2 h3 hb
      obtain ⟨wo, hwo⟩ : ∃ wo : World, wo = wr := ⟨_, rfl⟩
      obtain rfl := hwo
      go_wp2
      go_loopw [7, 8] (fun o j W => ∃ k : Nat, k ≤ 4 ∧ j = .int .i64 k ∧ o = .int .i64 (tover (low m i * n) (dg m i) n i k) ∧
        blk W w.heap.size (bigA m) 30 ∧ blk W (w.heap.size + 1) (bigA n) 30 ∧ blk W (w.heap.size + 1 + 1) zeros9 30 ∧
        blk W (w.heap.size + 1 + 1 + 1) (ints (row 9 (fun j => if j < i + k then (dg (tim (low m i * n) (dg m i) n i k) j : Int) else (dg (low m i * n) j : Int)))) 30 ∧ Below w.heap.size w W)
        (fun _ j _ => 4 - (intOf j).toNat)
      case atStart =>
        refine ⟨0, by omega, by rfl, by rw [tover_zero]; rfl, H0.out, H1.out, H2.out, H3.out.to ?_, HB.out⟩
        rw [bigA_eq, tim_zero]; congr 1; apply row_ext; intro j _; simp
      case round =>
        obtain ⟨k, hk, rfl, rfl, h0, h1, h2, h3, hb⟩ := hrel
        by_cases hlt2 : k < 4
        · have c0 := h0.cellv (bigA_get m i (by omega))
          have c1 := h1.cellv (bigA_get n k (by omega))
          have c3 := h3.free (i + k)
          have c4 := h3.cellv (ints_row_get 9 _ (i + k) (by omega))
          have b0 := dg_lt (low m i * n) (i + k)
          have b1 := dg_lt n k
          have b2 := tover_le (low m i * n) (dg m i) n i k hx
          obtain ⟨b3, b4⟩ := dg_mul m i n k
          have hs := times_stepI (low m i * n) (dg m i) n i k
          have b5 := dg_lt (tim (low m i * n) (dg m i) n i (k+1)) (i + k)
          simp only [Nat.lt_irrefl, if_false] at c4
          have hlow : ∀ j, j < i + k → dg (tim (low m i * n) (dg m i) n i (k+1)) j = dg (tim (low m i * n) (dg m i) n i k) j := fun j hj => tim_low _ _ _ _ _ _ hj
          have h0' := hid h0; have h1' := hid h1; have h2' := hid h2; have h3' := hid h3; have hb' := hid hb; have hs' := hid hs; have hl' := hid hlow
          clear h0 h1 h2 h3 hb hs hlow H0 H1 H2 H3 HB
          go_wp2
          go_quiet (fail)
          go_wp2
          go_roundw
          case rel =>
            have hsI := hs'.out
            refine ⟨k + 1, by omega, by go_num, ?_, (h0'.out.drewN _).off (by omega) _, (h1'.out.drewN _).off (by omega) _, (h2'.out.drewN _).off (by omega) _, ?_, bset (bdrewN hb'.out _) (by omega) _⟩
            · rw [hsI]; congr 1; omega
            · rw [band31_i64 _ (by omega) (by omega), hsI]
              refine (h3'.out.drewN _).setTo _ _ (ints_row_set 9 _ _ _ _ ?_)
              intro j hj
              by_cases e : j = i + k
              · subst e; simp [show i + k < i + (k + 1) by omega]; omega
              · by_cases h : j < i + k
                · simp [e, h, show j < i + (k + 1) by omega, hl'.out j h]
                · simp [e, h, show ¬ j < i + (k + 1) by omega]
          case measure => (simp [intOf]; try omega)
        · have hk4 : k = 4 := by omega
          subst hk4
          have b0 := dg_lt (low m i * n) (i + 4)
          have b6 : dg (low m i * n) (i + 4) = 0 := dg_high _ _ _ (low_lt m n i hn) (Nat.le_refl _)
          have ht : tim (low m i * n) (dg m i) n i 4 = low m (i+1) * n := by
            rw [low_succ]; exact tim_four _ _ _ _ hn
          have b7 := tover_four (low m i * n) (dg m i) n i (low_lt m n i hn) (by rw [ht]; exact (low_lt m n (i+1) hn))
          rw [ht] at b7 h3
          rw [b7]
          have b8 := dg_lt (low m (i+1) * n) (i + 4)
          have c3 := h3.free (i + 4)
          have c4 := h3.cellv (ints_row_get 9 _ (i + 4) (by omega))
          simp only [Nat.lt_irrefl, if_false, b6] at c4
          have h0' := hid h0; have h1' := hid h1; have h2' := hid h2; have h3' := hid h3; have hb' := hid hb
          clear h0 h1 h2 h3 hb H0 H1 H2 H3 HB b7 ht b6
          go_wp2
          go_roundw
          case rel =>
            refine ⟨i + 1, by omega, by go_num, h0'.out.off (by omega) _, h1'.out.off (by omega) _, h2'.out.off (by omega) _, ?_, bset hb'.out (by omega) _⟩
            rw [bigA_eq]
            refine h3'.out.setTo _ _ (ints_row_set 9 _ _ _ _ ?_)
            intro j hj
            by_cases e : j = i + 4
            · subst e; simp
            · by_cases h : j < i + 4
              · simp [e, h]
              · simp [e, h]
                rw [dg_high _ j (i+4) (low_lt m n i hn) (by omega), dg_high _ j (i+1+4) (low_lt m n (i+1) hn) (by omega)]
          case measure => (simp [intOf]; try omega)
    · have hk9 : i = 4 := by omega
      subst hk9
      have he : low m 4 * n = m * n := by unfold low; rw [Nat.mod_eq_of_lt hm]
      rw [he] at h3
      have f2 : ∀ i, wr.frozen? ⟨w.heap.size + 1 + 1, i, none⟩ = false := fun i => h2.free i
      have c2 : ∀ i, wr.cell? ⟨w.heap.size + 1 + 1, i, none⟩ = zeros9[i]? := fun i => h2.cell i
      have c3 : ∀ i, wr.cell? ⟨w.heap.size + 1 + 1 + 1, i, none⟩ = (bigA (m*n))[i]? := fun i => h3.cell i
      unfold zeros9 at c2
      unfold bigA at c3
      have HB := hid hb
      clear h0 h1 h2 h3 hb he hm hn
      go_wp2
      refine bodyPost_ret (v := .agg (bigA (m*n))) (by simp [results, Try.results60, go_sem, bigA, c2]) rfl ⟨rfl, ?_⟩
      have hb := HB.out
      (repeat (refine bset ?_ (by omega) _)); exact hb

end Go.Proofs.Ytlkemphhbamcfaa
