/-
  cell.Pack, Unpack, Up; kurganref16.Pack: a version and a place as one number.
-/
import Derived.Test.YtjjbognomeplbaaTy
import Derived.Test.YtjjbognomeplbaaEng3
import Derived.Test.YtjjbognomeplbaaBig
import Derived.Test.YtjjbognomeplbaaInts
namespace Go.Proofs.Ytjjbognomeplbaa
open Go.RowKit

/-- A place that is none counts as -1. -/
def plc (p : Int) : Int := if 0 ≤ p ∧ p ≤ 2147483646 then p else -1
theorem plc_bd (p : Int) : -1 ≤ plc p ∧ plc p ≤ 2147483646 := by unfold plc; split <;> omega
theorem plc_in {p : Int} (h : 0 ≤ p ∧ p ≤ 2147483646) : plc p = p := if_pos h
theorem plc_out {p : Int} (h : ¬ (0 ≤ p ∧ p ≤ 2147483646)) : plc p = -1 := if_neg h
/-- The packed number. -/
def packI (v p : Int) : Int := v % 1073741824 * 4294967296 + plc p + 1
theorem packI_bd (v p : Int) : 0 ≤ packI v p ∧ packI v p < 4611686018427387904 := by
  have := plc_bd p
  have h1 := Int.emod_nonneg v (show (1073741824 : Int) ≠ 0 by omega)
  have h2 := Int.emod_lt_of_pos v (show (0 : Int) < 1073741824 by omega)
  unfold packI; omega
theorem packI_v (v p : Int) : packI v p / 4294967296 = v % 1073741824 := by
  have := plc_bd p
  unfold packI; omega
theorem packI_p (v p : Int) : packI v p % 4294967296 - 1 = plc p := by
  have := plc_bd p
  unfold packI; omega
theorem band30 (x : Int) (h0 : -9223372036854775808 ≤ x) (h1 : x ≤ 9223372036854775807) : bits BinOp.and IntKind.i64 x 1073741823 = x % 1073741824 := by
  unfold bits
  simp only
  have hk : IntKind.bits .i64 = 64 := rfl
  rw [hk]
  have e : (BitVec.ofInt 64 x &&& BitVec.ofInt 64 1073741823).toNat = (x % 1073741824).toNat := by
    rw [BitVec.toNat_and, BitVec.toNat_ofInt, BitVec.toNat_ofInt]
    rw [show (1073741823 % ((2 ^ 64 : Nat) : Int)).toNat = 2 ^ 30 - 1 by decide, Nat.and_two_pow_sub_one_eq_mod]
    omega
  rw [e, IntKind.wrap_i64]; omega
theorem band32 (x : Int) (h0 : -9223372036854775808 ≤ x) (h1 : x ≤ 9223372036854775807) : bits BinOp.and IntKind.i64 x 4294967295 = x % 4294967296 := by
  unfold bits
  simp only
  have hk : IntKind.bits .i64 = 64 := rfl
  rw [hk]
  have e : (BitVec.ofInt 64 x &&& BitVec.ofInt 64 4294967295).toNat = (x % 4294967296).toNat := by
    rw [BitVec.toNat_and, BitVec.toNat_ofInt, BitVec.toNat_ofInt]
    rw [show (4294967295 % ((2 ^ 64 : Nat) : Int)).toNat = 2 ^ 32 - 1 by decide, Nat.and_two_pow_sub_one_eq_mod]
    omega
  rw [e, IntKind.wrap_i64]; omega
theorem shl32 (x : Int) (h0 : 0 ≤ x) (h1 : x < 1073741824) : IntKind.i64.wrap (x * 2 ^ min (32 : Int).toNat IntKind.i64.bits) = x * 4294967296 := by
  rw [show min (32 : Int).toNat IntKind.i64.bits = 32 by decide, show (2 : Int) ^ 32 = 4294967296 by decide, IntKind.wrap_i64]; omega
theorem shr32 (x : Int) : x.fdiv (2 ^ min (32 : Int).toNat IntKind.i64.bits) = x / 4294967296 := by
  rw [show min (32 : Int).toNat IntKind.i64.bits = 32 by decide, show (2 : Int) ^ 32 = 4294967296 by decide, Int.fdiv_eq_ediv_of_nonneg _ (by omega)]

set_option maxRecDepth 100000 in
set_option maxHeartbeats 400000 in
theorem pack_in0 (v p : Int) (hv0 : -9223372036854775808 ≤ v) (hv1 : v ≤ 9223372036854775807) (h0 : 0 ≤ p) (h1 : p ≤ 2147483646) (w : World) :
    Calls Try.prog 75 #[.int .i64 v, .int .i64 p] w fun e w' => e = .returned (.int .i64 (packI v p)) ∧ w = w' := by
  have hv2 := Int.emod_nonneg v (show (1073741824 : Int) ≠ 0 by omega)
  have hv3 := Int.emod_lt_of_pos v (show (0 : Int) < 1073741824 by omega)
  have hM := Mem.start w
  refine Calls.of_ends (vs := [.int .i64 v, .int .i64 p]) Try.func75 rfl Try.ntmps75 rfl ?_
  intro a hA
  replace hA : St 17 [(0, _), (1, _)] a := hA
  refine Ends.seq ?_
  refine Ends.region ?_
  refine S.val hA (R.assign rfl) rfl ?_; clear hA a; intro a hA
  refine S.done ?_
  replace hA : St 17 [(0, _), (1, _), (4, _)] a := hA.sub ((.cons rfl (.cons rfl (.cons rfl .nil))))
  refine Ends.seq ?_
  refine Ends.seq ?_
  refine Ends.region ?_
  refine S.val hA (R.move rfl) rfl ?_; clear hA a; intro a hA
  refine S.val hA (R.ff (R.lss rfl rfl) (by omega)) rfl ?_; clear hA a; intro a hA
  refine S.val hA (R.move rfl) rfl ?_; clear hA a; intro a hA
  refine S.valg (dj := 7) hA (by kernel_rfl) rfl (R.move rfl) rfl ?_; clear hA a; intro a hA
  refine S.valg (dj := 7) hA (by kernel_rfl) rfl (R.ff (R.gtr rfl rfl) (by omega)) rfl ?_; clear hA a; intro a hA
  refine S.val hA (R.pickF rfl rfl) rfl ?_; clear hA a; intro a hA
  refine S.done ?_
  replace hA : St 17 [(0, _), (1, _), (4, _), (10, _)] a := hA.sub ((.cons rfl (.cons rfl (.cons rfl (.cons rfl .nil)))))
  refine Ends.condF hA rfl ?_
  refine Ends.skip ?_
  refine Ends.seq ?_
  refine Ends.region ?_
  refine S.val hA (R.move rfl) rfl ?_; clear hA a; intro a hA
  refine S.val hA (R.to (R.bits (by simp) rfl rfl) (congrArg (Value.int .i64) (band30 v hv0 hv1))) rfl ?_; clear hA a; intro a hA
  refine S.val hA (R.to (R.shl rfl rfl (by omega)) (congrArg (Value.int .i64) (shl32 _ hv2 hv3))) rfl ?_; clear hA a; intro a hA
  refine S.val hA (R.move rfl) rfl ?_; clear hA a; intro a hA
  refine S.val hA (R.addI rfl rfl (r := ((v % 1073741824) * 4294967296) + p) rfl (by omega)) rfl ?_; clear hA a; intro a hA
  refine S.val hA (R.addI rfl rfl (r := (((v % 1073741824) * 4294967296) + p) + 1) rfl (by omega)) rfl ?_; clear hA a; intro a hA
  refine S.val hA (R.assign rfl) rfl ?_; clear hA a; intro a hA
  refine S.done ?_
  replace hA : St 17 [(4, _)] a := hA.sub ((.cons rfl .nil))
  refine Ends.ret1 Try.func75 Try.results75 hA rfl ?_
  exact ⟨by rw [show packI v p = (v % 1073741824) * 4294967296 + (p) + 1 by unfold packI; rw [plc_in ⟨h0, h1⟩]], rfl⟩
set_option maxRecDepth 100000 in
set_option maxHeartbeats 400000 in
theorem pack_low0 (v p : Int) (hv0 : -9223372036854775808 ≤ v) (hv1 : v ≤ 9223372036854775807) (h0 : p < 0) (w : World) :
    Calls Try.prog 75 #[.int .i64 v, .int .i64 p] w fun e w' => e = .returned (.int .i64 (packI v p)) ∧ w = w' := by
  have hv2 := Int.emod_nonneg v (show (1073741824 : Int) ≠ 0 by omega)
  have hv3 := Int.emod_lt_of_pos v (show (0 : Int) < 1073741824 by omega)
  have hM := Mem.start w
  refine Calls.of_ends (vs := [.int .i64 v, .int .i64 p]) Try.func75 rfl Try.ntmps75 rfl ?_
  intro a hA
  replace hA : St 17 [(0, _), (1, _)] a := hA
  refine Ends.seq ?_
  refine Ends.region ?_
  refine S.val hA (R.assign rfl) rfl ?_; clear hA a; intro a hA
  refine S.done ?_
  replace hA : St 17 [(0, _), (1, _), (4, _)] a := hA.sub ((.cons rfl (.cons rfl (.cons rfl .nil))))
  refine Ends.seq ?_
  refine Ends.seq ?_
  refine Ends.region ?_
  refine S.val hA (R.move rfl) rfl ?_; clear hA a; intro a hA
  refine S.val hA (R.tt (R.lss rfl rfl) (by omega)) rfl ?_; clear hA a; intro a hA
  refine S.val hA (R.move rfl) rfl ?_; clear hA a; intro a hA
  refine S.no (dj := 7) hA (by kernel_rfl) rfl rfl rfl ?_; clear hA a; intro a hA
  refine S.no (dj := 7) hA (by kernel_rfl) rfl rfl rfl ?_; clear hA a; intro a hA
  refine S.val hA (R.pickT rfl rfl) rfl ?_; clear hA a; intro a hA
  refine S.done ?_
  replace hA : St 17 [(0, _), (1, _), (4, _), (10, _)] a := hA.sub ((.cons rfl (.cons rfl (.cons rfl (.cons rfl .nil)))))
  refine Ends.condT hA rfl ?_
  refine Ends.region ?_
  refine S.val hA (R.assign rfl) rfl ?_; clear hA a; intro a hA
  refine S.done ?_
  replace hA : St 17 [(0, _), (1, _), (4, _)] a := hA.sub ((.cons rfl (.cons rfl (.cons rfl .nil))))
  refine Ends.seq ?_
  refine Ends.region ?_
  refine S.val hA (R.move rfl) rfl ?_; clear hA a; intro a hA
  refine S.val hA (R.to (R.bits (by simp) rfl rfl) (congrArg (Value.int .i64) (band30 v hv0 hv1))) rfl ?_; clear hA a; intro a hA
  refine S.val hA (R.to (R.shl rfl rfl (by omega)) (congrArg (Value.int .i64) (shl32 _ hv2 hv3))) rfl ?_; clear hA a; intro a hA
  refine S.val hA (R.move rfl) rfl ?_; clear hA a; intro a hA
  refine S.val hA (R.addI rfl rfl (r := ((v % 1073741824) * 4294967296) + (-1)) rfl (by omega)) rfl ?_; clear hA a; intro a hA
  refine S.val hA (R.addI rfl rfl (r := (((v % 1073741824) * 4294967296) + (-1)) + 1) rfl (by omega)) rfl ?_; clear hA a; intro a hA
  refine S.val hA (R.assign rfl) rfl ?_; clear hA a; intro a hA
  refine S.done ?_
  replace hA : St 17 [(4, _)] a := hA.sub ((.cons rfl .nil))
  refine Ends.ret1 Try.func75 Try.results75 hA rfl ?_
  exact ⟨by rw [show packI v p = (v % 1073741824) * 4294967296 + (-1) + 1 by unfold packI; rw [plc_out (by omega)]], rfl⟩
set_option maxRecDepth 100000 in
set_option maxHeartbeats 400000 in
theorem pack_high0 (v p : Int) (hv0 : -9223372036854775808 ≤ v) (hv1 : v ≤ 9223372036854775807) (h0 : 2147483646 < p) (w : World) :
    Calls Try.prog 75 #[.int .i64 v, .int .i64 p] w fun e w' => e = .returned (.int .i64 (packI v p)) ∧ w = w' := by
  have hv2 := Int.emod_nonneg v (show (1073741824 : Int) ≠ 0 by omega)
  have hv3 := Int.emod_lt_of_pos v (show (0 : Int) < 1073741824 by omega)
  have hM := Mem.start w
  refine Calls.of_ends (vs := [.int .i64 v, .int .i64 p]) Try.func75 rfl Try.ntmps75 rfl ?_
  intro a hA
  replace hA : St 17 [(0, _), (1, _)] a := hA
  refine Ends.seq ?_
  refine Ends.region ?_
  refine S.val hA (R.assign rfl) rfl ?_; clear hA a; intro a hA
  refine S.done ?_
  replace hA : St 17 [(0, _), (1, _), (4, _)] a := hA.sub ((.cons rfl (.cons rfl (.cons rfl .nil))))
  refine Ends.seq ?_
  refine Ends.seq ?_
  refine Ends.region ?_
  refine S.val hA (R.move rfl) rfl ?_; clear hA a; intro a hA
  refine S.val hA (R.ff (R.lss rfl rfl) (by omega)) rfl ?_; clear hA a; intro a hA
  refine S.val hA (R.move rfl) rfl ?_; clear hA a; intro a hA
  refine S.valg (dj := 7) hA (by kernel_rfl) rfl (R.move rfl) rfl ?_; clear hA a; intro a hA
  refine S.valg (dj := 7) hA (by kernel_rfl) rfl (R.tt (R.gtr rfl rfl) (by omega)) rfl ?_; clear hA a; intro a hA
  refine S.val hA (R.pickF rfl rfl) rfl ?_; clear hA a; intro a hA
  refine S.done ?_
  replace hA : St 17 [(0, _), (1, _), (4, _), (10, _)] a := hA.sub ((.cons rfl (.cons rfl (.cons rfl (.cons rfl .nil)))))
  refine Ends.condT hA rfl ?_
  refine Ends.region ?_
  refine S.val hA (R.assign rfl) rfl ?_; clear hA a; intro a hA
  refine S.done ?_
  replace hA : St 17 [(0, _), (1, _), (4, _)] a := hA.sub ((.cons rfl (.cons rfl (.cons rfl .nil))))
  refine Ends.seq ?_
  refine Ends.region ?_
  refine S.val hA (R.move rfl) rfl ?_; clear hA a; intro a hA
  refine S.val hA (R.to (R.bits (by simp) rfl rfl) (congrArg (Value.int .i64) (band30 v hv0 hv1))) rfl ?_; clear hA a; intro a hA
  refine S.val hA (R.to (R.shl rfl rfl (by omega)) (congrArg (Value.int .i64) (shl32 _ hv2 hv3))) rfl ?_; clear hA a; intro a hA
  refine S.val hA (R.move rfl) rfl ?_; clear hA a; intro a hA
  refine S.val hA (R.addI rfl rfl (r := ((v % 1073741824) * 4294967296) + (-1)) rfl (by omega)) rfl ?_; clear hA a; intro a hA
  refine S.val hA (R.addI rfl rfl (r := (((v % 1073741824) * 4294967296) + (-1)) + 1) rfl (by omega)) rfl ?_; clear hA a; intro a hA
  refine S.val hA (R.assign rfl) rfl ?_; clear hA a; intro a hA
  refine S.done ?_
  replace hA : St 17 [(4, _)] a := hA.sub ((.cons rfl .nil))
  refine Ends.ret1 Try.func75 Try.results75 hA rfl ?_
  exact ⟨by rw [show packI v p = (v % 1073741824) * 4294967296 + (-1) + 1 by unfold packI; rw [plc_out (by omega)]], rfl⟩
theorem pack_any (v p : Int) (hv0 : -9223372036854775808 ≤ v) (hv1 : v ≤ 9223372036854775807) (w : World) : Calls Try.prog 75 #[.int .i64 v, .int .i64 p] w fun e w' => e = .returned (.int .i64 (packI v p)) ∧ w = w' := by
  rcases Int.lt_or_le p 0 with h | h
  · exact pack_low0 v p hv0 hv1 h w
  · rcases Int.lt_or_le 2147483646 p with g | g
    · exact pack_high0 v p hv0 hv1 g w
    · exact pack_in0 v p hv0 hv1 h g w
theorem pack_in (v p : Int) (h0 : -9223372036854775808 ≤ v ∧ v ≤ 9223372036854775807) (_h1 : 0 ≤ p ∧ p ≤ 2147483646) (w : World) : Calls Try.prog 75 #[.int .i64 v, .int .i64 p] w fun e w' => e = .returned (.int .i64 (packI v p)) ∧ w = w' := pack_any v p h0.1 h0.2 w
set_option maxRecDepth 100000 in
set_option maxHeartbeats 400000 in
theorem unpack_any (n : Int) (hn0 : -9223372036854775808 ≤ n) (hn1 : n ≤ 9223372036854775807) (w : World) :
    Calls Try.prog 77 #[.int .i64 n] w fun e w' => e = .returned (.tuple #[.int .i64 (n / 4294967296 % 1073741824), .int .i64 (n % 4294967296 - 1)]) ∧ w = w' := by
  have hM := Mem.start w
  refine Calls.of_ends (vs := [.int .i64 n]) Try.func77 rfl Try.ntmps77 rfl ?_
  intro a hA
  replace hA : St 10 [(0, _)] a := hA
  refine Ends.seq ?_
  refine Ends.region ?_
  refine S.val hA (R.assign rfl) rfl ?_; clear hA a; intro a hA
  refine S.val hA (R.assign rfl) rfl ?_; clear hA a; intro a hA
  refine S.done ?_
  replace hA : St 10 [(0, _), (2, _), (3, _)] a := hA.sub ((.cons rfl (.cons rfl (.cons rfl .nil))))
  refine Ends.seq ?_
  refine Ends.region ?_
  refine S.val hA (R.move rfl) rfl ?_; clear hA a; intro a hA
  refine S.val hA (R.to (R.shr rfl rfl (by omega)) (congrArg (Value.int .i64) (shr32 n))) rfl ?_; clear hA a; intro a hA
  refine S.val hA (R.to (R.bits (by simp) rfl rfl) (congrArg (Value.int .i64) (band30 _ (by omega) (by omega)))) rfl ?_; clear hA a; intro a hA
  refine S.val hA (R.move rfl) rfl ?_; clear hA a; intro a hA
  refine S.val hA (R.to (R.bits (by simp) rfl rfl) (congrArg (Value.int .i64) (band32 n hn0 hn1))) rfl ?_; clear hA a; intro a hA
  refine S.val hA (R.subI rfl rfl (r := (n % 4294967296) - 1) rfl (by omega)) rfl ?_; clear hA a; intro a hA
  refine S.val hA (R.assign rfl) rfl ?_; clear hA a; intro a hA
  refine S.val hA (R.assign rfl) rfl ?_; clear hA a; intro a hA
  refine S.done ?_
  replace hA : St 10 [(2, _), (3, _)] a := hA.sub ((.cons rfl (.cons rfl .nil)))
  refine Ends.ret2 Try.func77 Try.results77 hA rfl rfl ?_
  exact ⟨rfl, rfl⟩
set_option maxRecDepth 100000 in
set_option maxHeartbeats 400000 in
theorem up_any (n p : Int) (hn0 : -9223372036854775808 ≤ n) (hn1 : n ≤ 9223372036854775807) (w : World) :
    Calls Try.prog 86 #[.int .i64 n, .int .i64 p] w fun e w' => e = .returned (.int .i64 (packI (n / 4294967296 % 1073741824 + 1) p)) ∧ w = w' := by
  have hM := Mem.start w
  refine Calls.of_ends (vs := [.int .i64 n, .int .i64 p]) Try.func86 rfl Try.ntmps86 rfl ?_
  intro a hA
  replace hA : St 16 [(0, _), (1, _)] a := hA
  refine Ends.seq ?_
  refine Ends.region ?_
  refine S.val hA (R.assign rfl) rfl ?_; clear hA a; intro a hA
  refine S.done ?_
  replace hA : St 16 [(0, _), (1, _), (4, _)] a := hA.sub ((.cons rfl (.cons rfl (.cons rfl .nil))))
  refine Ends.seq ?_
  refine Ends.region ?_
  refine S.val hA (R.move rfl) rfl ?_; clear hA a; intro a hA
  refine S.call hA (R.callF Try.func77 rfl rfl rfl) rfl (unpack_any n (by omega) (by omega) _) ?_; clear hA a
  rintro e w1 ⟨rfl, rfl⟩
  refine ⟨.tuple #[.int .i64 (n / 4294967296 % 1073741824), .int .i64 (n % 4294967296 - 1)], rfl, fun a hA => ?_⟩
  refine S.val hA (R.move rfl) rfl ?_; clear hA a; intro a hA
  refine S.val hA (R.extract (v := .int .i64 (n / 4294967296 % 1073741824)) rfl rfl) rfl ?_; clear hA a; intro a hA
  refine S.val hA (R.extract (v := .int .i64 (n % 4294967296 - 1)) rfl rfl) rfl ?_; clear hA a; intro a hA
  refine S.val hA (R.assign rfl) rfl ?_; clear hA a; intro a hA
  refine S.val hA (R.assign rfl) rfl ?_; clear hA a; intro a hA
  refine S.done ?_
  replace hA : St 16 [(1, _), (4, _), (5, _)] a := hA.sub ((.cons rfl (.cons rfl (.cons rfl .nil))))
  refine Ends.seq ?_
  refine Ends.region ?_
  refine S.val hA (R.move rfl) rfl ?_; clear hA a; intro a hA
  refine S.val hA (R.addI rfl rfl (r := (n / 4294967296 % 1073741824) + 1) rfl (by omega)) rfl ?_; clear hA a; intro a hA
  refine S.val hA (R.move rfl) rfl ?_; clear hA a; intro a hA
  refine S.call hA (R.callF Try.func75 rfl rfl rfl) rfl (pack_any ((n / 4294967296 % 1073741824) + 1) p (by omega) (by omega) _) ?_; clear hA a
  rintro e w2 ⟨rfl, rfl⟩
  refine ⟨.int .i64 (packI ((n / 4294967296 % 1073741824) + 1) p), rfl, fun a hA => ?_⟩
  refine S.val hA (R.assign rfl) rfl ?_; clear hA a; intro a hA
  refine S.done ?_
  replace hA : St 16 [(4, _)] a := hA.sub ((.cons rfl .nil))
  refine Ends.ret1 Try.func86 Try.results86 hA rfl ?_
  exact ⟨rfl, rfl⟩
end Go.Proofs.Ytjjbognomeplbaa
