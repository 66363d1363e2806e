/-
  Two lists of the same numbers ('Same').
-/
import Derived.Test.YtjjbognomeplbaaRows
import Derived.Test.YtjjbognomeplbaaIsl
namespace Go.Proofs.Ytjjbognomeplbaa
open Go.RowKit

set_option maxHeartbeats 800000 in
theorem same09 (v u : Value) (l m : List Int) (w : World) (hl : IntSl w v l) (hm : IntSl w u m) :
    Calls Try.prog 40 #[v, u] w fun e w' => e = .returned (.bool (decide (l = m))) ∧ Below w.heap.size w w' := by
  obtain ⟨a, ca, rfl, hla, hlx, -, hl⟩ := hl
  obtain ⟨b, cb, rfl, hlb, hmx, -, hm⟩ := hm
  unfold maxLen at hlx hmx
  by_cases hlen : l.length = m.length
  · have ht : ((l.length : Int) != (m.length : Int)) = false := by simp [hlen]
    go_enter Try.func40, Try.ntmps40
    have HLEN := hid hlen
    clear hlen
    go_wp2
    go_loopw [5] (fun i W => ∃ k : Nat, k ≤ l.length ∧ i = .int .i64 k ∧ l.take k = m.take k ∧ Below w.heap.size w W)
      (fun i _ => l.length - (intOf i).toNat)
    case atStart => exact ⟨0, Nat.zero_le _, rfl, by simp, Below.refl _ _⟩
    case round =>
      obtain ⟨k, hk, rfl, he, hw⟩ := hrel
      have HE := hid he
      have HW := hid hw
      clear he hw
      by_cases hlt : k < l.length
      · have hlt2 : k < m.length := by have := HLEN.out; omega
        obtain ⟨b1, o1, rfl, z1, h1⟩ := hl (by intro e; rw [e] at hlt; simp at hlt)
        obtain ⟨b2, o2, rfl, z2, h2⟩ := hm (by intro e; rw [e] at hlt2; simp at hlt2)
        have d1 : wr.cell? ⟨b1, o1 + k, none⟩ = some (.int .i64 (l.getD k 0)) := by rw [(bcell HW.out).1 _ _ z1]; exact h1 k hlt
        have d2 : wr.cell? ⟨b2, o2 + k, none⟩ = some (.int .i64 (m.getD k 0)) := by rw [(bcell HW.out).1 _ _ z2]; exact h2 k hlt2
        have t1 := take_succ_getD l k hlt
        have t2 := take_succ_getD m k hlt2
        have T1 := hid t1
        have T2 := hid t2
        clear t1 t2 hl hm h1 h2 z1 z2
        generalize l.getD k 0 = x at *
        generalize m.getD k 0 = y at *
        by_cases hxy : x = y
        · have hx : (x != y) = false := by simp [hxy]
          have HXY := hid hxy
          clear hxy
          go_wp2
          go_quiet (fail)
          go_wp2
          go_roundw
          case rel => exact ⟨k + 1, by omega, by go_num, by rw [T1.out, T2.out, HE.out, HXY.out], bdrewN HW.out _⟩
          case measure => simp [intOf]; omega
        · have hx : (x != y) = true := by simp [hxy]
          have HXY := hid hxy
          clear hxy
          go_wp2
          go_quiet (fail)
          go_wp2
          go_ret
          have hf : decide (l = m) = false := decide_eq_false (fun e => by
            have h1 := T1.out
            rw [HE.out, show List.take (k + 1) l = List.take (k + 1) m by rw [e], T2.out] at h1
            exact HXY.out (by simpa using h1.symm))
          exact ⟨ret_bool hf.symm, bdrewN HW.out _⟩
      · have hk2 : k = l.length := by omega
        have hd : decide (l = m) = true := by
          have h1 := HE.out
          rw [hk2, List.take_length, HLEN.out, List.take_length] at h1
          exact decide_eq_true h1
        have HD := hid hd
        clear hd hl hm hk2
        go_wp2
        go_ret
        exact ⟨ret_bool HD.out.symm, HW.out⟩
  · have ht : ((l.length : Int) != (m.length : Int)) = true := by simp; omega
    have HD := hid (show decide (l = m) = false from decide_eq_false (fun e => hlen (by rw [e])))
    clear hlen hl hm
    go_enter Try.func40, Try.ntmps40
    go_wp2
    go_ret
    exact ⟨ret_bool HD.out.symm, Below.refl _ _⟩

end Go.Proofs.Ytjjbognomeplbaa
