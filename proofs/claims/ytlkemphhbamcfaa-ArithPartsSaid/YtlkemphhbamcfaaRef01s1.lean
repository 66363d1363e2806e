/-
  The walk of kurganref01.Add at two numbers of different signs.
-/
import Derived.Test.YtlkemphhbamcfaaRef01s
namespace Go.Proofs.Ytlkemphhbamcfaa
open Go.RowKit
attribute [local go_sem ↓] Go.wp_at_zero Go.wp_at_succ

set_option maxHeartbeats 1600000 in
theorem add_ft_lt (m n : Nat) (hm : Two200 m) (hn : Two200 n) (hlt : m < n) (w : World)  :
    Calls Try.prog 20 #[.agg (sgA false m), .agg (sgA true n)] w fun e w' => e = .returned (.agg (sgA true (n-m))) ∧ Below w.heap.size w w' := by
  unfold sgA
  have hs : ((false == true) = false) := by decide
  have hlt' := hlt
  clear hlt
  have hd : decide (m < n) = true := by simp; omega
  go_enter Try.func20, Try.ntmps20
  go_wp2_with fail
  refine (less_any m n hm hn _).mono ?_
  rintro e W ⟨rfl, hb⟩
  rw [hd]
  obtain ⟨c0, c1, c2, f2, hB, hz0, hz1, hz⟩ := add_keep (add_start w false true m n) hb
  have HB := hid hB
  clear hB hb hd
  go_wp2_with fail
  go_region_with (go_at_call 59; refine (minus_any n m (Nat.le_of_lt hlt') _).mono ?_; rintro e w1 ⟨rfl, hb⟩; have hb1 : Below W.heap.size W w1 := ⟨hb.os, hb.tape, hb.output, hb.size, hb.block⟩; clear hb; obtain ⟨hc, hf⟩ := bcell hb1; have hb2 := hid hb1; clear hb1; unfold bigA)
  all_goals
    go_wp2
    refine bodyPost_ret (v := .agg (sgA true (n-m))) (by simp [results, Try.results20, go_sem, sgA, hc, c2, *]) rfl ⟨rfl, ?_⟩
    (repeat (refine bset ?_ (by omega) _)); exact HB.out.trans (hb2.out.mono (by omega))

end Go.Proofs.Ytlkemphhbamcfaa
