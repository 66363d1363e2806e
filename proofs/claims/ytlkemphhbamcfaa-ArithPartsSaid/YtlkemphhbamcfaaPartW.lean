/-
  math/bits.Div64, arith.Part; the law ArithParts.
-/
import Derived.Test.YtlkemphhbamcfaaDiv2
import Derived.Test.YtlkemphhbamcfaaAddsL
import Derived.Test.YtlkemphhbamcfaaEngV
import Derived.Test.YtlkemphhbamcfaaShelf
namespace Go.Proofs.Ytlkemphhbamcfaa
open Go.RowKit
set_option maxRecDepth 100000 in
set_option maxHeartbeats 400000 in
theorem lz64 (x : Int) (h0 : 0 ≤ x) (h1 : x ≤ 18446744073709551615) (w : World) :
    Calls Try.prog 79 #[.int .u64 x] w fun e w' => e = .returned (.int .i64 (64 - (Lib.bitLen x.toNat : Int))) ∧ Below w.heap.size w w' := by
  have hbs := Below.refl (B := w.heap.size) w
  have hbl := Lib.bitLen_le x.toNat 64 (by omega) (by omega)
  have hM := Mem.start w
  refine Calls.of_ends (vs := [.int .u64 x]) Try.func79 rfl Try.ntmps79 rfl ?_
  intro a hA
  replace hA : St 6 [(0, _)] a := hA
  refine Ends.seq ?_
  refine Ends.region ?_
  refine S.val hA (R.assign rfl) rfl ?_; clear hA a; intro a hA
  refine S.done ?_
  replace hA : St 6 [(0, _)] a := hA.sub ((.cons rfl .nil))
  refine Ends.seq ?_
  refine Ends.region ?_
  refine S.val hA (R.move rfl) rfl ?_; clear hA a; intro a hA
  refine S.call hA (R.callF Try.func81 rfl rfl rfl) rfl ((Try.bits_Len64 x _ h0 h1)) ?_; clear hA a
  rintro e w1 ⟨rfl, rfl⟩
  refine ⟨.int .i64 ((Lib.bitLen x.toNat : Int)), rfl, fun a hA => ?_⟩
  refine S.val hA (R.subI rfl rfl (r := 64 - ((Lib.bitLen x.toNat : Int))) rfl (by omega)) rfl ?_; clear hA a; intro a hA
  refine S.val hA (R.assign rfl) rfl ?_; clear hA a; intro a hA
  refine S.done ?_
  replace hA : St 6 [(2, _)] a := hA.sub ((.cons rfl .nil))
  refine Ends.ret1 Try.func79 Try.results79 hA rfl ?_
  exact ⟨rfl, Mem.trans0 hbs hM.nilL⟩
set_option maxRecDepth 100000 in
set_option maxHeartbeats 1000000 in
theorem div64 (hi lo y : Int) (hhi : 0 ≤ hi ∧ hi < y) (hlo : 0 ≤ lo ∧ lo ≤ 18446744073709551615) (hyb : y ≤ 18446744073709551615) (w : World) :
    Calls Try.prog 69 #[.int .u64 hi, .int .u64 lo, .int .u64 y] w fun e w' => ∃ r, e = .returned (.tuple #[.int .u64 ((hi * 18446744073709551616 + lo) / y), .int .u64 r]) ∧ Below w.heap.size w w' := by
  have hbs := Below.refl (B := w.heap.size) w
  have hM := Mem.start w
  refine Calls.of_ends (vs := [.int .u64 hi, .int .u64 lo, .int .u64 y]) Try.func69 rfl Try.ntmps69 rfl ?_
  intro a hA
  replace hA : St 135 [(0, _), (1, _), (2, _)] a := hA
  refine Ends.seq ?_
  refine Ends.region ?_
  refine S.val hA (R.assign rfl) rfl ?_; clear hA a; intro a hA
  refine S.val hA (R.assign rfl) rfl ?_; clear hA a; intro a hA
  refine S.done ?_
  replace hA : St 135 [(0, _), (1, _), (2, _)] a := hA.sub ((.cons rfl (.cons rfl (.cons rfl .nil))))
  refine Ends.seq ?_
  refine Ends.seq ?_
  refine Ends.region ?_
  refine S.val hA (R.move rfl) rfl ?_; clear hA a; intro a hA
  refine S.val hA (R.eql rfl rfl) rfl ?_; clear hA a; intro a hA
  refine S.done ?_
  replace hA : St 135 [(0, _), (1, _), (2, _), (20, _)] a := hA.sub ((.cons rfl (.cons rfl (.cons rfl (.cons rfl .nil)))))
  refine Ends.ite hA rfl (fun hc1 => ?_) (fun hc1 => ?_)
  · exact absurd hc1 (by omega)
  ·
    refine Ends.skip ?_
    refine Ends.seq ?_
    refine Ends.seq ?_
    refine Ends.region ?_
    refine S.val hA (R.move rfl) rfl ?_; clear hA a; intro a hA
    refine S.val hA (R.move rfl) rfl ?_; clear hA a; intro a hA
    refine S.val hA (R.leq rfl rfl) rfl ?_; clear hA a; intro a hA
    refine S.done ?_
    replace hA : St 135 [(0, _), (1, _), (2, _), (24, _)] a := hA.sub ((.cons rfl (.cons rfl (.cons rfl (.cons rfl .nil)))))
    refine Ends.ite hA rfl (fun hc2 => ?_) (fun hc2 => ?_)
    · exact absurd hc2 (by omega)
    ·
      refine Ends.skip ?_
      refine Ends.seq ?_
      refine Ends.seq ?_
      refine Ends.region ?_
      refine S.val hA (R.move rfl) rfl ?_; clear hA a; intro a hA
      refine S.val hA (R.eql rfl rfl) rfl ?_; clear hA a; intro a hA
      refine S.done ?_
      replace hA : St 135 [(0, _), (1, _), (2, _), (27, _)] a := hA.sub ((.cons rfl (.cons rfl (.cons rfl (.cons rfl .nil)))))
      refine Ends.ite hA rfl (fun hc3 => ?_) (fun hc3 => ?_)
      ·
        refine Ends.seq ?_
        refine Ends.drawn (Mem w nof []) (.cons (0, true) (.cons (1, true) (.cons (2, true) (.cons (3, true) (.cons (4, true) (.cons (5, true) (.cons (6, true) (.cons (7, true) .nil)))))))) 8 mixed (by kernel_rfl) (by kernel_rfl) (by kernel_rfl) hM.drew ?_
        replace hM := hM.drew
        refine D.valF hA rfl (fun _ => R.move rfl) rfl ?_; clear hA a; intro a hA
        refine D.valF hA rfl (fun _ => R.move rfl) rfl ?_; clear hA a; intro a hA
        refine D.valF hA rfl (fun _ => R.to (v := .int .u64 (lo / y)) (R.quo rfl rfl (by omega)) (congrArg (Value.int .u64) ((quo_in hlo.1 (by omega) (by omega)).2.2.2.2))) rfl ?_; clear hA a; intro a hA
        refine D.valF hA rfl (fun _ => R.move rfl) rfl ?_; clear hA a; intro a hA
        refine D.valF hA rfl (fun _ => R.move rfl) rfl ?_; clear hA a; intro a hA
        refine D.valF hA rfl (fun _ => R.remI rfl rfl rfl (by omega)) rfl ?_; clear hA a; intro a hA
        refine D.valF hA rfl (fun _ => R.assign rfl) rfl ?_; clear hA a; intro a hA
        refine D.valF hA rfl (fun _ => R.assign rfl) rfl ?_; clear hA a; intro a hA
        refine D.done ?_
        replace hA : St 135 [(0, _), (1, _), (2, _), (6, _), (7, _)] a := hA.sub ((.cons rfl (.cons rfl (.cons rfl (.cons rfl (.cons rfl .nil))))))
        refine Ends.ret2 Try.func69 Try.results69 hA rfl rfl ?_
        have hz := hc3
        exact ⟨_, by rw [hz, Int.zero_mul, Int.zero_add], Mem.trans0 hbs hM.nilL⟩
      ·
        refine Ends.skip ?_
        refine Ends.seq ?_
        obtain ⟨s, P, C, hs, hs63, hP, hC, hPC, hP0, hC0, hn0, hn1⟩ := norm_of (y := y) (by omega) (by omega)
        refine Ends.region ?_
        refine S.val hA (R.move rfl) rfl ?_; clear hA a; intro a hA
        refine S.call hA (R.callF Try.func79 rfl rfl rfl) rfl (lz64 y (by omega) (by omega) _) ?_; clear hA a
        rintro e w1 ⟨rfl, hb⟩
        replace hM := hM.callB hb; clear hb
        refine ⟨.int .i64 (64 - (Lib.bitLen y.toNat : Int)), rfl, fun a hA => ?_⟩
        refine S.val hA (R.to (v := .int .u64 ((s : Int))) (R.conv Try.underlying92 Try.underlying3 rfl) (congrArg (Value.int .u64) ((by rw [hs]; exact u64w (by omega) (by omega))))) rfl ?_; clear hA a; intro a hA
        refine S.val hA (R.assign rfl) rfl ?_; clear hA a; intro a hA
        refine S.done ?_
        replace hA : St 135 [(0, _), (1, _), (2, _), (8, _)] a := hA.sub ((.cons rfl (.cons rfl (.cons rfl (.cons rfl .nil)))))
        refine Ends.seq ?_
        refine Ends.region ?_
        refine S.val hA (R.move rfl) rfl ?_; clear hA a; intro a hA
        refine S.val hA (R.move rfl) rfl ?_; clear hA a; intro a hA
        refine S.val hA (R.to (v := .int .u64 (y * P)) (R.shl rfl rfl (by omega)) (congrArg (Value.int .u64) ((by rw [shl_ex hs63 hP]; exact u64w (by omega) (by omega))))) rfl ?_; clear hA a; intro a hA
        refine S.val hA (R.assign rfl) rfl ?_; clear hA a; intro a hA
        refine S.done ?_
        replace hA : St 135 [(0, _), (1, _), (2, _), (8, _)] a := hA.sub ((.cons rfl (.cons rfl (.cons rfl (.cons rfl .nil)))))
        refine Ends.seq ?_
        obtain ⟨Y, hY⟩ : ∃ Y, Y = y * P := ⟨_, rfl⟩
        rw [← hY] at hA hn0 hn1
        obtain ⟨y1, hy1⟩ : ∃ y1, y1 = Y / 4294967296 := ⟨_, rfl⟩
        obtain ⟨y0, hy0⟩ : ∃ y0, y0 = Y % 4294967296 := ⟨_, rfl⟩
        have hYe : Y = y1 * 4294967296 + y0 := by omega
        obtain ⟨U, hU⟩ : ∃ U, U = hi * P + lo / C := ⟨_, rfl⟩
        obtain ⟨k1, k2, k3, k4, k5, k6, k7⟩ := pushed (y := y) hhi (by omega) hPC hP0 hC0 (by omega) hU
        rw [← hY] at k2 k6
        obtain ⟨L, hL⟩ : ∃ L, L = lo * P % 18446744073709551616 := ⟨_, rfl⟩
        rw [← hL] at k7
        obtain ⟨v1, hv1⟩ : ∃ v1, v1 = L / 4294967296 := ⟨_, rfl⟩
        obtain ⟨v0, hv0⟩ : ∃ v0, v0 = L % 4294967296 := ⟨_, rfl⟩
        have hLe : L = v1 * 4294967296 + v0 := by omega
        have hH : Half U v1 y1 y0 := ⟨k5, by omega, by omega, by omega, by omega⟩
        have hqU := quo_in (y1 := y1) k5 (by omega) (by omega)
        refine Ends.region ?_
        refine S.val hA (R.move rfl) rfl ?_; clear hA a; intro a hA
        refine S.val hA (R.to (v := .int .u64 (y1)) (R.shr rfl rfl (by omega)) (congrArg (Value.int .u64) ((by rw [shr32, ← hy1])))) rfl ?_; clear hA a; intro a hA
        refine S.val hA (R.assign rfl) rfl ?_; clear hA a; intro a hA
        refine S.done ?_
        replace hA : St 135 [(0, _), (1, _), (2, _), (8, _), (9, _)] a := hA.sub ((.cons rfl (.cons rfl (.cons rfl (.cons rfl (.cons rfl .nil))))))
        refine Ends.seq ?_
        refine Ends.region ?_
        refine S.val hA (R.move rfl) rfl ?_; clear hA a; intro a hA
        refine S.val hA (R.to (v := .int .u64 (y0)) (R.bits (by simp) rfl rfl) (congrArg (Value.int .u64) ((by rw [mask32 (by omega) (by omega), ← hy0])))) rfl ?_; clear hA a; intro a hA
        refine S.val hA (R.assign rfl) rfl ?_; clear hA a; intro a hA
        refine S.done ?_
        replace hA : St 135 [(0, _), (1, _), (2, _), (8, _), (9, _), (10, _)] a := hA.sub ((.cons rfl (.cons rfl (.cons rfl (.cons rfl (.cons rfl (.cons rfl .nil)))))))
        refine Ends.seq ?_
        refine Ends.region ?_
        refine S.val hA (R.move rfl) rfl ?_; clear hA a; intro a hA
        refine S.val hA (R.move rfl) rfl ?_; clear hA a; intro a hA
        refine S.val hA (R.to (v := .int .u64 (hi * P)) (R.shl rfl rfl (by omega)) (congrArg (Value.int .u64) ((by rw [shl_ex hs63 hP]; exact u64w (by omega) (by omega))))) rfl ?_; clear hA a; intro a hA
        refine S.val hA (R.move rfl) rfl ?_; clear hA a; intro a hA
        refine S.val hA (R.move rfl) rfl ?_; clear hA a; intro a hA
        refine S.val hA (R.to (v := .int .u64 (((64 - s : Nat) : Int))) (R.sub rfl rfl) (congrArg (Value.int .u64) ((by rw [u64w (by omega) (by omega)]; omega)))) rfl ?_; clear hA a; intro a hA
        refine S.val hA (R.to (v := .int .u64 (lo / C)) (R.shr rfl rfl (by omega)) (congrArg (Value.int .u64) (shr_ex hs63 hC hC0))) rfl ?_; clear hA a; intro a hA
        refine S.val hA (R.to (v := .int .u64 (U)) (R.bits (by simp) rfl rfl) (congrArg (Value.int .u64) ((by rw [or_ex hs63 hP hhi.1 k3 k4 (by omega), hU])))) rfl ?_; clear hA a; intro a hA
        refine S.val hA (R.assign rfl) rfl ?_; clear hA a; intro a hA
        refine S.done ?_
        replace hA : St 135 [(1, _), (2, _), (8, _), (9, _), (10, _), (11, _)] a := hA.sub ((.cons rfl (.cons rfl (.cons rfl (.cons rfl (.cons rfl (.cons rfl .nil)))))))
        refine Ends.seq ?_
        refine Ends.region ?_
        refine S.val hA (R.move rfl) rfl ?_; clear hA a; intro a hA
        refine S.val hA (R.move rfl) rfl ?_; clear hA a; intro a hA
        refine S.val hA (R.to (v := .int .u64 (L)) (R.shl rfl rfl (by omega)) (congrArg (Value.int .u64) ((by rw [shl_ex hs63 hP, IntKind.wrap_u64, ← hL])))) rfl ?_; clear hA a; intro a hA
        refine S.val hA (R.assign rfl) rfl ?_; clear hA a; intro a hA
        refine S.done ?_
        replace hA : St 135 [(2, _), (8, _), (9, _), (10, _), (11, _), (12, _)] a := hA.sub ((.cons rfl (.cons rfl (.cons rfl (.cons rfl (.cons rfl (.cons rfl .nil)))))))
        refine Ends.seq ?_
        refine Ends.region ?_
        refine S.val hA (R.move rfl) rfl ?_; clear hA a; intro a hA
        refine S.val hA (R.to (v := .int .u64 (v1)) (R.shr rfl rfl (by omega)) (congrArg (Value.int .u64) ((by rw [shr32, ← hv1])))) rfl ?_; clear hA a; intro a hA
        refine S.val hA (R.assign rfl) rfl ?_; clear hA a; intro a hA
        refine S.done ?_
        replace hA : St 135 [(2, _), (8, _), (9, _), (10, _), (11, _), (12, _), (13, _)] a := hA.sub ((.cons rfl (.cons rfl (.cons rfl (.cons rfl (.cons rfl (.cons rfl (.cons rfl .nil))))))))
        refine Ends.seq ?_
        refine Ends.region ?_
        refine S.val hA (R.move rfl) rfl ?_; clear hA a; intro a hA
        refine S.val hA (R.to (v := .int .u64 (v0)) (R.bits (by simp) rfl rfl) (congrArg (Value.int .u64) ((by rw [mask32 (by omega) (by omega), ← hv0])))) rfl ?_; clear hA a; intro a hA
        refine S.val hA (R.assign rfl) rfl ?_; clear hA a; intro a hA
        refine S.done ?_
        replace hA : St 135 [(2, _), (8, _), (9, _), (10, _), (11, _), (13, _), (14, _)] a := hA.sub ((.cons rfl (.cons rfl (.cons rfl (.cons rfl (.cons rfl (.cons rfl (.cons rfl .nil))))))))
        refine Ends.seq ?_
        refine Ends.region ?_
        refine S.val hA (R.move rfl) rfl ?_; clear hA a; intro a hA
        refine S.val hA (R.move rfl) rfl ?_; clear hA a; intro a hA
        refine S.val hA (R.to (v := .int .u64 (U / y1)) (R.quo rfl rfl (by omega)) (congrArg (Value.int .u64) (hqU.2.2.2.2))) rfl ?_; clear hA a; intro a hA
        refine S.val hA (R.assign rfl) rfl ?_; clear hA a; intro a hA
        refine S.done ?_
        replace hA : St 135 [(2, _), (8, _), (9, _), (10, _), (11, _), (13, _), (14, _), (15, _)] a := hA.sub ((.cons rfl (.cons rfl (.cons rfl (.cons rfl (.cons rfl (.cons rfl (.cons rfl (.cons rfl .nil)))))))))
        refine Ends.seq ?_
        refine Ends.region ?_
        refine S.val hA (R.move rfl) rfl ?_; clear hA a; intro a hA
        refine S.val hA (R.move rfl) rfl ?_; clear hA a; intro a hA
        refine S.val hA (R.move rfl) rfl ?_; clear hA a; intro a hA
        refine S.val hA (R.to (v := .int .u64 (U / y1 * y1)) (R.mul rfl rfl) (congrArg (Value.int .u64) (u64w hqU.2.2.1 (by omega)))) rfl ?_; clear hA a; intro a hA
        refine S.val hA (R.to (v := .int .u64 (U - U / y1 * y1)) (R.sub rfl rfl) (congrArg (Value.int .u64) (u64w (by omega) (by omega)))) rfl ?_; clear hA a; intro a hA
        refine S.val hA (R.assign rfl) rfl ?_; clear hA a; intro a hA
        refine S.done ?_
        replace hA : St 135 [(2, _), (8, _), (9, _), (10, _), (11, _), (13, _), (14, _), (15, _), (16, _)] a := hA.sub ((.cons rfl (.cons rfl (.cons rfl (.cons rfl (.cons rfl (.cons rfl (.cons rfl (.cons rfl (.cons rfl .nil))))))))))
        refine Ends.seq ?_
        refine Ends.block ?_
        refine Ends.loop (σ := Int × Int) (fun (q, r) (a : Act) (wv : World) => St 135 [(2, .int .u64 Y), (8, .int .u64 ((s : Int))), (9, .int .u64 y1), (10, .int .u64 y0), (11, .int .u64 U), (13, .int .u64 v1), (14, .int .u64 v0), (15, .int .u64 q), (16, .int .u64 r)] a ∧ Mem w nof [] wv ∧ (Try2 U v1 y1 y0 q r)) (fun (q, r) => q.toNat) ((U / y1, U - U / y1 * y1)) ⟨hA.sub ((.cons rfl (.cons rfl (.cons rfl (.cons rfl (.cons rfl (.cons rfl (.cons rfl (.cons rfl (.cons rfl .nil)))))))))), hM, hH.first⟩ ?_
        clear hA hM a
        rintro ⟨q, r⟩ a w2 ⟨hA, hM, ht⟩ hNext
        refine Ends.seq ?_
        refine Ends.seq ?_
        refine Ends.cut (fun (a : Act) (wv : World) => St 135 [(2, .int .u64 Y), (8, .int .u64 ((s : Int))), (9, .int .u64 y1), (10, .int .u64 y0), (11, .int .u64 U), (13, .int .u64 v1), (14, .int .u64 v0), (15, .int .u64 q), (16, .int .u64 r), (78, .bool (decide ((4294967296 ≤ q ∨ (4294967296 * r + v1) < (q * y0)))))] a ∧ Mem w nof [] wv) ?_ (fun k2 hJ => ?_)
        · clear hA hM a; rintro a w3 ⟨hA, hM⟩
          refine Ends.ite hA rfl (fun hc4 => ?_) (fun hc4 => ?_)
          ·
            have tb := ht.r0
            have tB := ht.qB
            have tq := ht.q0
            have hQ0 := hH.hq0
            have hq1 := hH.less ht.eq ht.q0 hc4
            have hst : (q - 1) * y1 + (r + y1) = U := by have := ht.eq; rw [Int.sub_mul, Int.one_mul]; omega
            have hyb := hH.y1b
            refine Ends.skip ?_
            refine Ends.block ?_
            refine Ends.seq ?_
            refine Ends.region ?_
            refine S.val hA (R.move rfl) rfl ?_; clear hA a; intro a hA
            refine S.val hA (R.to (v := .int .u64 (q - 1)) (R.sub rfl rfl) (congrArg (Value.int .u64) (u64w (by omega) (by omega)))) rfl ?_; clear hA a; intro a hA
            refine S.val hA (R.assign rfl) rfl ?_; clear hA a; intro a hA
            refine S.done ?_
            replace hA : St 135 [(2, _), (8, _), (9, _), (10, _), (11, _), (13, _), (14, _), (15, _), (16, _)] a := hA.sub ((.cons rfl (.cons rfl (.cons rfl (.cons rfl (.cons rfl (.cons rfl (.cons rfl (.cons rfl (.cons rfl .nil))))))))))
            refine Ends.seq ?_
            refine Ends.region ?_
            refine S.val hA (R.move rfl) rfl ?_; clear hA a; intro a hA
            refine S.val hA (R.move rfl) rfl ?_; clear hA a; intro a hA
            refine S.val hA (R.to (v := .int .u64 (r + y1)) (R.add rfl rfl) (congrArg (Value.int .u64) (u64w (by omega) (by omega)))) rfl ?_; clear hA a; intro a hA
            refine S.val hA (R.assign rfl) rfl ?_; clear hA a; intro a hA
            refine S.done ?_
            replace hA : St 135 [(2, _), (8, _), (9, _), (10, _), (11, _), (13, _), (14, _), (15, _), (16, _)] a := hA.sub ((.cons rfl (.cons rfl (.cons rfl (.cons rfl (.cons rfl (.cons rfl (.cons rfl (.cons rfl (.cons rfl .nil))))))))))
            refine Ends.seq ?_
            refine Ends.region ?_
            refine S.val hA (R.move rfl) rfl ?_; clear hA a; intro a hA
            refine S.val hA (R.geq rfl rfl) rfl ?_; clear hA a; intro a hA
            refine S.done ?_
            replace hA : St 135 [(2, _), (8, _), (9, _), (10, _), (11, _), (13, _), (14, _), (15, _), (16, _), (85, _)] a := hA.sub ((.cons rfl (.cons rfl (.cons rfl (.cons rfl (.cons rfl (.cons rfl (.cons rfl (.cons rfl (.cons rfl (.cons rfl .nil)))))))))))
            refine Ends.ite hA rfl (fun hc5 => ?_) (fun hc5 => ?_)
            ·
              have hfin0 : q - 1 = (hq U v1 y1 y0) := hH.done hst hq1 (hH.broke (by omega) (by omega))
              rw [hfin0] at hA
              refine Ends.exit rfl ?_
              replace hA : St 135 [(2, _), (8, _), (9, _), (10, _), (11, _), (13, _), (14, _), (15, _)] a := hA.sub ((.cons rfl (.cons rfl (.cons rfl (.cons rfl (.cons rfl (.cons rfl (.cons rfl (.cons rfl .nil)))))))))
              refine Ends.seq ?_
              refine Ends.region ?_
              refine S.val hA (R.move rfl) rfl ?_; clear hA a; intro a hA
              refine S.val hA (R.mul rfl rfl) rfl ?_; clear hA a; intro a hA
              refine S.val hA (R.move rfl) rfl ?_; clear hA a; intro a hA
              refine S.val hA (R.add rfl rfl) rfl ?_; clear hA a; intro a hA
              refine S.val hA (R.move rfl) rfl ?_; clear hA a; intro a hA
              refine S.val hA (R.move rfl) rfl ?_; clear hA a; intro a hA
              refine S.val hA (R.mul rfl rfl) rfl ?_; clear hA a; intro a hA
              refine S.val hA (R.to (v := .int .u64 (hr U v1 y1 y0)) (R.sub rfl rfl) (congrArg (Value.int .u64) (hr_wrap hH hYe))) rfl ?_; clear hA a; intro a hA
              refine S.val hA (R.assign rfl) rfl ?_; clear hA a; intro a hA
              refine S.done ?_
              replace hA : St 135 [(2, _), (8, _), (9, _), (10, _), (14, _), (15, _), (17, _)] a := hA.sub ((.cons rfl (.cons rfl (.cons rfl (.cons rfl (.cons rfl (.cons rfl (.cons rfl .nil))))))))
              refine Ends.seq ?_
              obtain ⟨V, hV⟩ : ∃ V, V = hr U v1 y1 y0 := ⟨_, rfl⟩
              rw [← hV] at hA
              have hVb := hH.hrb
              rw [← hV] at hVb
              have hH1 : Half V v0 y1 y0 := ⟨hVb.1, hVb.2, by omega, hH.y1b, hH.y0b⟩
              have hqV := quo_in (y1 := y1) hVb.1 (by omega) (by omega)
              refine Ends.region ?_
              refine S.val hA (R.move rfl) rfl ?_; clear hA a; intro a hA
              refine S.val hA (R.move rfl) rfl ?_; clear hA a; intro a hA
              refine S.val hA (R.to (v := .int .u64 (V / y1)) (R.quo rfl rfl (by omega)) (congrArg (Value.int .u64) (hqV.2.2.2.2))) rfl ?_; clear hA a; intro a hA
              refine S.val hA (R.assign rfl) rfl ?_; clear hA a; intro a hA
              refine S.done ?_
              replace hA : St 135 [(2, _), (8, _), (9, _), (10, _), (14, _), (15, _), (17, _), (18, _)] a := hA.sub ((.cons rfl (.cons rfl (.cons rfl (.cons rfl (.cons rfl (.cons rfl (.cons rfl (.cons rfl .nil)))))))))
              refine Ends.seq ?_
              refine Ends.region ?_
              refine S.val hA (R.move rfl) rfl ?_; clear hA a; intro a hA
              refine S.val hA (R.move rfl) rfl ?_; clear hA a; intro a hA
              refine S.val hA (R.move rfl) rfl ?_; clear hA a; intro a hA
              refine S.val hA (R.to (v := .int .u64 (V / y1 * y1)) (R.mul rfl rfl) (congrArg (Value.int .u64) (u64w hqV.2.2.1 (by omega)))) rfl ?_; clear hA a; intro a hA
              refine S.val hA (R.to (v := .int .u64 (V - V / y1 * y1)) (R.sub rfl rfl) (congrArg (Value.int .u64) (u64w (by omega) (by omega)))) rfl ?_; clear hA a; intro a hA
              refine S.val hA (R.assign rfl) rfl ?_; clear hA a; intro a hA
              refine S.done ?_
              replace hA : St 135 [(2, _), (8, _), (9, _), (10, _), (14, _), (15, _), (16, _), (17, _), (18, _)] a := hA.sub ((.cons rfl (.cons rfl (.cons rfl (.cons rfl (.cons rfl (.cons rfl (.cons rfl (.cons rfl (.cons rfl .nil))))))))))
              refine Ends.seq ?_
              refine Ends.block ?_
              refine Ends.loop (σ := Int × Int) (fun (q, r) (a : Act) (wv : World) => St 135 [(2, .int .u64 Y), (8, .int .u64 ((s : Int))), (9, .int .u64 y1), (10, .int .u64 y0), (14, .int .u64 v0), (15, .int .u64 ((hq U v1 y1 y0))), (16, .int .u64 r), (17, .int .u64 V), (18, .int .u64 q)] a ∧ Mem w nof [] wv ∧ (Try2 V v0 y1 y0 q r)) (fun (q, r) => q.toNat) ((V / y1, V - V / y1 * y1)) ⟨hA.sub ((.cons rfl (.cons rfl (.cons rfl (.cons rfl (.cons rfl (.cons rfl (.cons rfl (.cons rfl (.cons rfl .nil)))))))))), hM, hH1.first⟩ ?_
              clear hA hM a
              rintro ⟨q, r⟩ a w4 ⟨hA, hM, ht⟩ hNext1
              refine Ends.seq ?_
              refine Ends.seq ?_
              refine Ends.cut (fun (a : Act) (wv : World) => St 135 [(2, .int .u64 Y), (8, .int .u64 ((s : Int))), (9, .int .u64 y1), (10, .int .u64 y0), (14, .int .u64 v0), (15, .int .u64 ((hq U v1 y1 y0))), (16, .int .u64 r), (17, .int .u64 V), (18, .int .u64 q), (113, .bool (decide ((4294967296 ≤ q ∨ (4294967296 * r + v0) < (q * y0)))))] a ∧ Mem w nof [] wv) ?_ (fun k2 hJ => ?_)
              · clear hA hM a; rintro a w5 ⟨hA, hM⟩
                refine Ends.ite hA rfl (fun hc6 => ?_) (fun hc6 => ?_)
                ·
                  have tb := ht.r0
                  have tB := ht.qB
                  have tq := ht.q0
                  have hQ0 := hH1.hq0
                  have hq1 := hH1.less ht.eq ht.q0 hc6
                  have hst : (q - 1) * y1 + (r + y1) = V := by have := ht.eq; rw [Int.sub_mul, Int.one_mul]; omega
                  have hyb := hH1.y1b
                  refine Ends.skip ?_
                  refine Ends.block ?_
                  refine Ends.seq ?_
                  refine Ends.region ?_
                  refine S.val hA (R.move rfl) rfl ?_; clear hA a; intro a hA
                  refine S.val hA (R.to (v := .int .u64 (q - 1)) (R.sub rfl rfl) (congrArg (Value.int .u64) (u64w (by omega) (by omega)))) rfl ?_; clear hA a; intro a hA
                  refine S.val hA (R.assign rfl) rfl ?_; clear hA a; intro a hA
                  refine S.done ?_
                  replace hA : St 135 [(2, _), (8, _), (9, _), (10, _), (14, _), (15, _), (16, _), (17, _), (18, _)] a := hA.sub ((.cons rfl (.cons rfl (.cons rfl (.cons rfl (.cons rfl (.cons rfl (.cons rfl (.cons rfl (.cons rfl .nil))))))))))
                  refine Ends.seq ?_
                  refine Ends.region ?_
                  refine S.val hA (R.move rfl) rfl ?_; clear hA a; intro a hA
                  refine S.val hA (R.move rfl) rfl ?_; clear hA a; intro a hA
                  refine S.val hA (R.to (v := .int .u64 (r + y1)) (R.add rfl rfl) (congrArg (Value.int .u64) (u64w (by omega) (by omega)))) rfl ?_; clear hA a; intro a hA
                  refine S.val hA (R.assign rfl) rfl ?_; clear hA a; intro a hA
                  refine S.done ?_
                  replace hA : St 135 [(2, _), (8, _), (9, _), (10, _), (14, _), (15, _), (16, _), (17, _), (18, _)] a := hA.sub ((.cons rfl (.cons rfl (.cons rfl (.cons rfl (.cons rfl (.cons rfl (.cons rfl (.cons rfl (.cons rfl .nil))))))))))
                  refine Ends.seq ?_
                  refine Ends.region ?_
                  refine S.val hA (R.move rfl) rfl ?_; clear hA a; intro a hA
                  refine S.val hA (R.geq rfl rfl) rfl ?_; clear hA a; intro a hA
                  refine S.done ?_
                  replace hA : St 135 [(2, _), (8, _), (9, _), (10, _), (14, _), (15, _), (16, _), (17, _), (18, _), (120, _)] a := hA.sub ((.cons rfl (.cons rfl (.cons rfl (.cons rfl (.cons rfl (.cons rfl (.cons rfl (.cons rfl (.cons rfl (.cons rfl .nil)))))))))))
                  refine Ends.ite hA rfl (fun hc7 => ?_) (fun hc7 => ?_)
                  ·
                    have hfin1 : q - 1 = (hq V v0 y1 y0) := hH1.done hst hq1 (hH1.broke (by omega) (by omega))
                    rw [hfin1] at hA
                    refine Ends.exit rfl ?_
                    replace hA : St 135 [(2, _), (8, _), (14, _), (15, _), (17, _), (18, _)] a := hA.sub ((.cons rfl (.cons rfl (.cons rfl (.cons rfl (.cons rfl (.cons rfl .nil)))))))
                    refine Ends.seq ?_
                    have q1a := hH.hq0
                    have q1b := hH.ltB
                    have q0a := hH1.hq0
                    have q0b := hH1.ltB
                    refine Ends.region ?_
                    refine S.val hA (R.move rfl) rfl ?_; clear hA a; intro a hA
                    refine S.val hA (R.to (v := .int .u64 (hq U v1 y1 y0 * 4294967296)) (R.mul rfl rfl) (congrArg (Value.int .u64) (u64w (by omega) (by omega)))) rfl ?_; clear hA a; intro a hA
                    refine S.val hA (R.move rfl) rfl ?_; clear hA a; intro a hA
                    refine S.val hA (R.to (v := .int .u64 (hq U v1 y1 y0 * 4294967296 + hq V v0 y1 y0)) (R.add rfl rfl) (congrArg (Value.int .u64) (u64w (by omega) (by omega)))) rfl ?_; clear hA a; intro a hA
                    refine S.val hA (R.move rfl) rfl ?_; clear hA a; intro a hA
                    refine S.val hA (R.mul rfl rfl) rfl ?_; clear hA a; intro a hA
                    refine S.val hA (R.move rfl) rfl ?_; clear hA a; intro a hA
                    refine S.val hA (R.add rfl rfl) rfl ?_; clear hA a; intro a hA
                    refine S.val hA (R.move rfl) rfl ?_; clear hA a; intro a hA
                    refine S.val hA (R.move rfl) rfl ?_; clear hA a; intro a hA
                    refine S.val hA (R.mul rfl rfl) rfl ?_; clear hA a; intro a hA
                    refine S.val hA (R.sub rfl rfl) rfl ?_; clear hA a; intro a hA
                    refine S.val hA (R.move rfl) rfl ?_; clear hA a; intro a hA
                    refine S.val hA (R.shr rfl rfl (by omega)) rfl ?_; clear hA a; intro a hA
                    refine S.val hA (R.assign rfl) rfl ?_; clear hA a; intro a hA
                    refine S.val hA (R.assign rfl) rfl ?_; clear hA a; intro a hA
                    refine S.done ?_
                    replace hA : St 135 [(6, _), (7, _)] a := hA.sub ((.cons rfl (.cons rfl .nil)))
                    refine Ends.ret2 Try.func69 Try.results69 hA rfl rfl ?_
                    have he : hq U v1 y1 y0 * 4294967296 + hq V v0 y1 y0 = (hi * 18446744073709551616 + lo) / y := by rw [hV]; exact quo_end hH (by rw [← hV]; exact hH1) hP0 (by omega) hLe k7
                    exact ⟨_, by rw [he], Mem.trans0 hbs hM.nilL⟩
                  ·
                    refine Ends.skip ?_
                    refine Ends.inBlock ?_
                    exact hNext1 ((q - 1, r + y1)) _ _ ((by show (q - 1).toNat < q.toNat; omega)) ⟨hA.sub ((.cons rfl (.cons rfl (.cons rfl (.cons rfl (.cons rfl (.cons rfl (.cons rfl (.cons rfl (.cons rfl .nil)))))))))), hM, ⟨hst, hq1, by omega, by omega⟩⟩
                ·
                  have hfin1 : q = (hq V v0 y1 y0) := hH1.done ht.eq ht.q0 (by omega)
                  rw [hfin1] at hA
                  refine Ends.exit rfl ?_
                  replace hA : St 135 [(2, _), (8, _), (14, _), (15, _), (17, _), (18, _)] a := hA.sub ((.cons rfl (.cons rfl (.cons rfl (.cons rfl (.cons rfl (.cons rfl .nil)))))))
                  refine Ends.seq ?_
                  have q1a := hH.hq0
                  have q1b := hH.ltB
                  have q0a := hH1.hq0
                  have q0b := hH1.ltB
                  refine Ends.region ?_
                  refine S.val hA (R.move rfl) rfl ?_; clear hA a; intro a hA
                  refine S.val hA (R.to (v := .int .u64 (hq U v1 y1 y0 * 4294967296)) (R.mul rfl rfl) (congrArg (Value.int .u64) (u64w (by omega) (by omega)))) rfl ?_; clear hA a; intro a hA
                  refine S.val hA (R.move rfl) rfl ?_; clear hA a; intro a hA
                  refine S.val hA (R.to (v := .int .u64 (hq U v1 y1 y0 * 4294967296 + hq V v0 y1 y0)) (R.add rfl rfl) (congrArg (Value.int .u64) (u64w (by omega) (by omega)))) rfl ?_; clear hA a; intro a hA
                  refine S.val hA (R.move rfl) rfl ?_; clear hA a; intro a hA
                  refine S.val hA (R.mul rfl rfl) rfl ?_; clear hA a; intro a hA
                  refine S.val hA (R.move rfl) rfl ?_; clear hA a; intro a hA
                  refine S.val hA (R.add rfl rfl) rfl ?_; clear hA a; intro a hA
                  refine S.val hA (R.move rfl) rfl ?_; clear hA a; intro a hA
                  refine S.val hA (R.move rfl) rfl ?_; clear hA a; intro a hA
                  refine S.val hA (R.mul rfl rfl) rfl ?_; clear hA a; intro a hA
                  refine S.val hA (R.sub rfl rfl) rfl ?_; clear hA a; intro a hA
                  refine S.val hA (R.move rfl) rfl ?_; clear hA a; intro a hA
                  refine S.val hA (R.shr rfl rfl (by omega)) rfl ?_; clear hA a; intro a hA
                  refine S.val hA (R.assign rfl) rfl ?_; clear hA a; intro a hA
                  refine S.val hA (R.assign rfl) rfl ?_; clear hA a; intro a hA
                  refine S.done ?_
                  replace hA : St 135 [(6, _), (7, _)] a := hA.sub ((.cons rfl (.cons rfl .nil)))
                  refine Ends.ret2 Try.func69 Try.results69 hA rfl rfl ?_
                  have he : hq U v1 y1 y0 * 4294967296 + hq V v0 y1 y0 = (hi * 18446744073709551616 + lo) / y := by rw [hV]; exact quo_end hH (by rw [← hV]; exact hH1) hP0 (by omega) hLe k7
                  exact ⟨_, by rw [he], Mem.trans0 hbs hM.nilL⟩
              ·
                refine Ends.region ?_
                refine S.val hA (R.move rfl) rfl ?_; clear hA a; intro a hA
                refine S.val hA (R.geq rfl rfl) rfl ?_; clear hA a; intro a hA
                refine S.val hA (R.move rfl) rfl ?_; clear hA a; intro a hA
                refine hA.split (d := 104) rfl ?_ ?_
                · clear hA; intro hg8 hA
                  refine S.no (dj := 104) hA (by kernel_rfl) rfl rfl rfl ?_; clear hA a; intro a hA
                  refine S.no (dj := 104) hA (by kernel_rfl) rfl rfl rfl ?_; clear hA a; intro a hA
                  refine S.no (dj := 104) hA (by kernel_rfl) rfl rfl rfl ?_; clear hA a; intro a hA
                  refine S.no (dj := 104) hA (by kernel_rfl) rfl rfl rfl ?_; clear hA a; intro a hA
                  refine S.no (dj := 104) hA (by kernel_rfl) rfl rfl rfl ?_; clear hA a; intro a hA
                  refine S.no (dj := 104) hA (by kernel_rfl) rfl rfl rfl ?_; clear hA a; intro a hA
                  refine S.no (dj := 104) hA (by kernel_rfl) rfl rfl rfl ?_; clear hA a; intro a hA
                  refine S.no (dj := 104) hA (by kernel_rfl) rfl rfl rfl ?_; clear hA a; intro a hA
                  refine S.val hA (R.pickT rfl rfl) rfl ?_; clear hA a; intro a hA
                  refine S.done ?_
                  replace hA : St 135 [(2, _), (8, _), (9, _), (10, _), (14, _), (15, _), (16, _), (17, _), (18, _), (113, _)] a := hA.sub ((.cons rfl (.cons rfl (.cons rfl (.cons rfl (.cons rfl (.cons rfl (.cons rfl (.cons rfl (.cons rfl (.cons rfl .nil)))))))))))
                  exact hJ _ _ ⟨hA.sub (.cons rfl (.cons rfl (.cons rfl (.cons rfl (.cons rfl (.cons rfl (.cons rfl (.cons rfl (.cons rfl (.cons (by first | rfl | exact congrArg (fun b => some (Value.bool b)) (by first | exact decide_eq_decide.2 (by omega) | exact or_bool (by omega) | exact and_bool (by omega) | (simp; done) | (simp [hg8]; done) | (have h80 := hg8; (try simp at h80); simp [h80]; done) | exact (decide_eq_false (fun h9 => hg8 h9.1)).symm)) .nil)))))))))), hM⟩
                · clear hA; intro hg8 hA
                  refine S.valg (dj := 104) hA (by kernel_rfl) rfl (R.move rfl) rfl ?_; clear hA a; intro a hA
                  refine S.valg (dj := 104) hA (by kernel_rfl) rfl (R.move rfl) rfl ?_; clear hA a; intro a hA
                  refine S.valg (dj := 104) hA (by kernel_rfl) rfl (R.to (v := .int .u64 (q * y0)) (R.mul rfl rfl) (congrArg (Value.int .u64) (u64w (Try2.mul0 hH1 ht (by omega)).2.1 (Try2.mul0 hH1 ht (by omega)).2.2))) rfl ?_; clear hA a; intro a hA
                  refine S.valg (dj := 104) hA (by kernel_rfl) rfl (R.move rfl) rfl ?_; clear hA a; intro a hA
                  refine S.valg (dj := 104) hA (by kernel_rfl) rfl (R.to (v := .int .u64 (4294967296 * r)) (R.mul rfl rfl) (congrArg (Value.int .u64) (u64w (by have := ht.r0; omega) (by have := ht.r0; omega)))) rfl ?_; clear hA a; intro a hA
                  refine S.valg (dj := 104) hA (by kernel_rfl) rfl (R.move rfl) rfl ?_; clear hA a; intro a hA
                  refine S.valg (dj := 104) hA (by kernel_rfl) rfl (R.to (v := .int .u64 (4294967296 * r + v0)) (R.add rfl rfl) (congrArg (Value.int .u64) (u64w (by have := ht.r0; have := hH1.v0; omega) (by have := ht.r0; have := hH1.v0; omega)))) rfl ?_; clear hA a; intro a hA
                  refine S.valg (dj := 104) hA (by kernel_rfl) rfl (R.gtr rfl rfl) rfl ?_; clear hA a; intro a hA
                  refine S.val hA (R.pickF rfl rfl) rfl ?_; clear hA a; intro a hA
                  refine S.done ?_
                  replace hA : St 135 [(2, _), (8, _), (9, _), (10, _), (14, _), (15, _), (16, _), (17, _), (18, _), (113, _)] a := hA.sub ((.cons rfl (.cons rfl (.cons rfl (.cons rfl (.cons rfl (.cons rfl (.cons rfl (.cons rfl (.cons rfl (.cons rfl .nil)))))))))))
                  exact hJ _ _ ⟨hA.sub (.cons rfl (.cons rfl (.cons rfl (.cons rfl (.cons rfl (.cons rfl (.cons rfl (.cons rfl (.cons rfl (.cons (by first | rfl | exact congrArg (fun b => some (Value.bool b)) (by first | exact decide_eq_decide.2 (by omega) | exact or_bool (by omega) | exact and_bool (by omega) | (simp; done) | (simp [hg8]; done) | (have h80 := hg8; (try simp at h80); simp [h80]; done) | exact (decide_eq_false (fun h9 => hg8 h9.1)).symm)) .nil)))))))))), hM⟩
            ·
              refine Ends.skip ?_
              refine Ends.inBlock ?_
              exact hNext ((q - 1, r + y1)) _ _ ((by show (q - 1).toNat < q.toNat; omega)) ⟨hA.sub ((.cons rfl (.cons rfl (.cons rfl (.cons rfl (.cons rfl (.cons rfl (.cons rfl (.cons rfl (.cons rfl .nil)))))))))), hM, ⟨hst, hq1, by omega, by omega⟩⟩
          ·
            have hfin0 : q = (hq U v1 y1 y0) := hH.done ht.eq ht.q0 (by omega)
            rw [hfin0] at hA
            refine Ends.exit rfl ?_
            replace hA : St 135 [(2, _), (8, _), (9, _), (10, _), (11, _), (13, _), (14, _), (15, _)] a := hA.sub ((.cons rfl (.cons rfl (.cons rfl (.cons rfl (.cons rfl (.cons rfl (.cons rfl (.cons rfl .nil)))))))))
            refine Ends.seq ?_
            refine Ends.region ?_
            refine S.val hA (R.move rfl) rfl ?_; clear hA a; intro a hA
            refine S.val hA (R.mul rfl rfl) rfl ?_; clear hA a; intro a hA
            refine S.val hA (R.move rfl) rfl ?_; clear hA a; intro a hA
            refine S.val hA (R.add rfl rfl) rfl ?_; clear hA a; intro a hA
            refine S.val hA (R.move rfl) rfl ?_; clear hA a; intro a hA
            refine S.val hA (R.move rfl) rfl ?_; clear hA a; intro a hA
            refine S.val hA (R.mul rfl rfl) rfl ?_; clear hA a; intro a hA
            refine S.val hA (R.to (v := .int .u64 (hr U v1 y1 y0)) (R.sub rfl rfl) (congrArg (Value.int .u64) (hr_wrap hH hYe))) rfl ?_; clear hA a; intro a hA
            refine S.val hA (R.assign rfl) rfl ?_; clear hA a; intro a hA
            refine S.done ?_
            replace hA : St 135 [(2, _), (8, _), (9, _), (10, _), (14, _), (15, _), (17, _)] a := hA.sub ((.cons rfl (.cons rfl (.cons rfl (.cons rfl (.cons rfl (.cons rfl (.cons rfl .nil))))))))
            refine Ends.seq ?_
            obtain ⟨V, hV⟩ : ∃ V, V = hr U v1 y1 y0 := ⟨_, rfl⟩
            rw [← hV] at hA
            have hVb := hH.hrb
            rw [← hV] at hVb
            have hH1 : Half V v0 y1 y0 := ⟨hVb.1, hVb.2, by omega, hH.y1b, hH.y0b⟩
            have hqV := quo_in (y1 := y1) hVb.1 (by omega) (by omega)
            refine Ends.region ?_
            refine S.val hA (R.move rfl) rfl ?_; clear hA a; intro a hA
            refine S.val hA (R.move rfl) rfl ?_; clear hA a; intro a hA
            refine S.val hA (R.to (v := .int .u64 (V / y1)) (R.quo rfl rfl (by omega)) (congrArg (Value.int .u64) (hqV.2.2.2.2))) rfl ?_; clear hA a; intro a hA
            refine S.val hA (R.assign rfl) rfl ?_; clear hA a; intro a hA
            refine S.done ?_
            replace hA : St 135 [(2, _), (8, _), (9, _), (10, _), (14, _), (15, _), (17, _), (18, _)] a := hA.sub ((.cons rfl (.cons rfl (.cons rfl (.cons rfl (.cons rfl (.cons rfl (.cons rfl (.cons rfl .nil)))))))))
            refine Ends.seq ?_
            refine Ends.region ?_
            refine S.val hA (R.move rfl) rfl ?_; clear hA a; intro a hA
            refine S.val hA (R.move rfl) rfl ?_; clear hA a; intro a hA
            refine S.val hA (R.move rfl) rfl ?_; clear hA a; intro a hA
            refine S.val hA (R.to (v := .int .u64 (V / y1 * y1)) (R.mul rfl rfl) (congrArg (Value.int .u64) (u64w hqV.2.2.1 (by omega)))) rfl ?_; clear hA a; intro a hA
            refine S.val hA (R.to (v := .int .u64 (V - V / y1 * y1)) (R.sub rfl rfl) (congrArg (Value.int .u64) (u64w (by omega) (by omega)))) rfl ?_; clear hA a; intro a hA
            refine S.val hA (R.assign rfl) rfl ?_; clear hA a; intro a hA
            refine S.done ?_
            replace hA : St 135 [(2, _), (8, _), (9, _), (10, _), (14, _), (15, _), (16, _), (17, _), (18, _)] a := hA.sub ((.cons rfl (.cons rfl (.cons rfl (.cons rfl (.cons rfl (.cons rfl (.cons rfl (.cons rfl (.cons rfl .nil))))))))))
            refine Ends.seq ?_
            refine Ends.block ?_
            refine Ends.loop (σ := Int × Int) (fun (q, r) (a : Act) (wv : World) => St 135 [(2, .int .u64 Y), (8, .int .u64 ((s : Int))), (9, .int .u64 y1), (10, .int .u64 y0), (14, .int .u64 v0), (15, .int .u64 ((hq U v1 y1 y0))), (16, .int .u64 r), (17, .int .u64 V), (18, .int .u64 q)] a ∧ Mem w nof [] wv ∧ (Try2 V v0 y1 y0 q r)) (fun (q, r) => q.toNat) ((V / y1, V - V / y1 * y1)) ⟨hA.sub ((.cons rfl (.cons rfl (.cons rfl (.cons rfl (.cons rfl (.cons rfl (.cons rfl (.cons rfl (.cons rfl .nil)))))))))), hM, hH1.first⟩ ?_
            clear hA hM a
            rintro ⟨q, r⟩ a w6 ⟨hA, hM, ht⟩ hNext1
            refine Ends.seq ?_
            refine Ends.seq ?_
            refine Ends.cut (fun (a : Act) (wv : World) => St 135 [(2, .int .u64 Y), (8, .int .u64 ((s : Int))), (9, .int .u64 y1), (10, .int .u64 y0), (14, .int .u64 v0), (15, .int .u64 ((hq U v1 y1 y0))), (16, .int .u64 r), (17, .int .u64 V), (18, .int .u64 q), (113, .bool (decide ((4294967296 ≤ q ∨ (4294967296 * r + v0) < (q * y0)))))] a ∧ Mem w nof [] wv) ?_ (fun k2 hJ => ?_)
            · clear hA hM a; rintro a w7 ⟨hA, hM⟩
              refine Ends.ite hA rfl (fun hc9 => ?_) (fun hc9 => ?_)
              ·
                have tb := ht.r0
                have tB := ht.qB
                have tq := ht.q0
                have hQ0 := hH1.hq0
                have hq1 := hH1.less ht.eq ht.q0 hc9
                have hst : (q - 1) * y1 + (r + y1) = V := by have := ht.eq; rw [Int.sub_mul, Int.one_mul]; omega
                have hyb := hH1.y1b
                refine Ends.skip ?_
                refine Ends.block ?_
                refine Ends.seq ?_
                refine Ends.region ?_
                refine S.val hA (R.move rfl) rfl ?_; clear hA a; intro a hA
                refine S.val hA (R.to (v := .int .u64 (q - 1)) (R.sub rfl rfl) (congrArg (Value.int .u64) (u64w (by omega) (by omega)))) rfl ?_; clear hA a; intro a hA
                refine S.val hA (R.assign rfl) rfl ?_; clear hA a; intro a hA
                refine S.done ?_
                replace hA : St 135 [(2, _), (8, _), (9, _), (10, _), (14, _), (15, _), (16, _), (17, _), (18, _)] a := hA.sub ((.cons rfl (.cons rfl (.cons rfl (.cons rfl (.cons rfl (.cons rfl (.cons rfl (.cons rfl (.cons rfl .nil))))))))))
                refine Ends.seq ?_
                refine Ends.region ?_
                refine S.val hA (R.move rfl) rfl ?_; clear hA a; intro a hA
                refine S.val hA (R.move rfl) rfl ?_; clear hA a; intro a hA
                refine S.val hA (R.to (v := .int .u64 (r + y1)) (R.add rfl rfl) (congrArg (Value.int .u64) (u64w (by omega) (by omega)))) rfl ?_; clear hA a; intro a hA
                refine S.val hA (R.assign rfl) rfl ?_; clear hA a; intro a hA
                refine S.done ?_
                replace hA : St 135 [(2, _), (8, _), (9, _), (10, _), (14, _), (15, _), (16, _), (17, _), (18, _)] a := hA.sub ((.cons rfl (.cons rfl (.cons rfl (.cons rfl (.cons rfl (.cons rfl (.cons rfl (.cons rfl (.cons rfl .nil))))))))))
                refine Ends.seq ?_
                refine Ends.region ?_
                refine S.val hA (R.move rfl) rfl ?_; clear hA a; intro a hA
                refine S.val hA (R.geq rfl rfl) rfl ?_; clear hA a; intro a hA
                refine S.done ?_
                replace hA : St 135 [(2, _), (8, _), (9, _), (10, _), (14, _), (15, _), (16, _), (17, _), (18, _), (120, _)] a := hA.sub ((.cons rfl (.cons rfl (.cons rfl (.cons rfl (.cons rfl (.cons rfl (.cons rfl (.cons rfl (.cons rfl (.cons rfl .nil)))))))))))
                refine Ends.ite hA rfl (fun hc10 => ?_) (fun hc10 => ?_)
                ·
                  have hfin1 : q - 1 = (hq V v0 y1 y0) := hH1.done hst hq1 (hH1.broke (by omega) (by omega))
                  rw [hfin1] at hA
                  refine Ends.exit rfl ?_
                  replace hA : St 135 [(2, _), (8, _), (14, _), (15, _), (17, _), (18, _)] a := hA.sub ((.cons rfl (.cons rfl (.cons rfl (.cons rfl (.cons rfl (.cons rfl .nil)))))))
                  refine Ends.seq ?_
                  have q1a := hH.hq0
                  have q1b := hH.ltB
                  have q0a := hH1.hq0
                  have q0b := hH1.ltB
                  refine Ends.region ?_
                  refine S.val hA (R.move rfl) rfl ?_; clear hA a; intro a hA
                  refine S.val hA (R.to (v := .int .u64 (hq U v1 y1 y0 * 4294967296)) (R.mul rfl rfl) (congrArg (Value.int .u64) (u64w (by omega) (by omega)))) rfl ?_; clear hA a; intro a hA
                  refine S.val hA (R.move rfl) rfl ?_; clear hA a; intro a hA
                  refine S.val hA (R.to (v := .int .u64 (hq U v1 y1 y0 * 4294967296 + hq V v0 y1 y0)) (R.add rfl rfl) (congrArg (Value.int .u64) (u64w (by omega) (by omega)))) rfl ?_; clear hA a; intro a hA
                  refine S.val hA (R.move rfl) rfl ?_; clear hA a; intro a hA
                  refine S.val hA (R.mul rfl rfl) rfl ?_; clear hA a; intro a hA
                  refine S.val hA (R.move rfl) rfl ?_; clear hA a; intro a hA
                  refine S.val hA (R.add rfl rfl) rfl ?_; clear hA a; intro a hA
                  refine S.val hA (R.move rfl) rfl ?_; clear hA a; intro a hA
                  refine S.val hA (R.move rfl) rfl ?_; clear hA a; intro a hA
                  refine S.val hA (R.mul rfl rfl) rfl ?_; clear hA a; intro a hA
                  refine S.val hA (R.sub rfl rfl) rfl ?_; clear hA a; intro a hA
                  refine S.val hA (R.move rfl) rfl ?_; clear hA a; intro a hA
                  refine S.val hA (R.shr rfl rfl (by omega)) rfl ?_; clear hA a; intro a hA
                  refine S.val hA (R.assign rfl) rfl ?_; clear hA a; intro a hA
                  refine S.val hA (R.assign rfl) rfl ?_; clear hA a; intro a hA
                  refine S.done ?_
                  replace hA : St 135 [(6, _), (7, _)] a := hA.sub ((.cons rfl (.cons rfl .nil)))
                  refine Ends.ret2 Try.func69 Try.results69 hA rfl rfl ?_
                  have he : hq U v1 y1 y0 * 4294967296 + hq V v0 y1 y0 = (hi * 18446744073709551616 + lo) / y := by rw [hV]; exact quo_end hH (by rw [← hV]; exact hH1) hP0 (by omega) hLe k7
                  exact ⟨_, by rw [he], Mem.trans0 hbs hM.nilL⟩
                ·
                  refine Ends.skip ?_
                  refine Ends.inBlock ?_
                  exact hNext1 ((q - 1, r + y1)) _ _ ((by show (q - 1).toNat < q.toNat; omega)) ⟨hA.sub ((.cons rfl (.cons rfl (.cons rfl (.cons rfl (.cons rfl (.cons rfl (.cons rfl (.cons rfl (.cons rfl .nil)))))))))), hM, ⟨hst, hq1, by omega, by omega⟩⟩
              ·
                have hfin1 : q = (hq V v0 y1 y0) := hH1.done ht.eq ht.q0 (by omega)
                rw [hfin1] at hA
                refine Ends.exit rfl ?_
                replace hA : St 135 [(2, _), (8, _), (14, _), (15, _), (17, _), (18, _)] a := hA.sub ((.cons rfl (.cons rfl (.cons rfl (.cons rfl (.cons rfl (.cons rfl .nil)))))))
                refine Ends.seq ?_
                have q1a := hH.hq0
                have q1b := hH.ltB
                have q0a := hH1.hq0
                have q0b := hH1.ltB
                refine Ends.region ?_
                refine S.val hA (R.move rfl) rfl ?_; clear hA a; intro a hA
                refine S.val hA (R.to (v := .int .u64 (hq U v1 y1 y0 * 4294967296)) (R.mul rfl rfl) (congrArg (Value.int .u64) (u64w (by omega) (by omega)))) rfl ?_; clear hA a; intro a hA
                refine S.val hA (R.move rfl) rfl ?_; clear hA a; intro a hA
                refine S.val hA (R.to (v := .int .u64 (hq U v1 y1 y0 * 4294967296 + hq V v0 y1 y0)) (R.add rfl rfl) (congrArg (Value.int .u64) (u64w (by omega) (by omega)))) rfl ?_; clear hA a; intro a hA
                refine S.val hA (R.move rfl) rfl ?_; clear hA a; intro a hA
                refine S.val hA (R.mul rfl rfl) rfl ?_; clear hA a; intro a hA
                refine S.val hA (R.move rfl) rfl ?_; clear hA a; intro a hA
                refine S.val hA (R.add rfl rfl) rfl ?_; clear hA a; intro a hA
                refine S.val hA (R.move rfl) rfl ?_; clear hA a; intro a hA
                refine S.val hA (R.move rfl) rfl ?_; clear hA a; intro a hA
                refine S.val hA (R.mul rfl rfl) rfl ?_; clear hA a; intro a hA
                refine S.val hA (R.sub rfl rfl) rfl ?_; clear hA a; intro a hA
                refine S.val hA (R.move rfl) rfl ?_; clear hA a; intro a hA
                refine S.val hA (R.shr rfl rfl (by omega)) rfl ?_; clear hA a; intro a hA
                refine S.val hA (R.assign rfl) rfl ?_; clear hA a; intro a hA
                refine S.val hA (R.assign rfl) rfl ?_; clear hA a; intro a hA
                refine S.done ?_
                replace hA : St 135 [(6, _), (7, _)] a := hA.sub ((.cons rfl (.cons rfl .nil)))
                refine Ends.ret2 Try.func69 Try.results69 hA rfl rfl ?_
                have he : hq U v1 y1 y0 * 4294967296 + hq V v0 y1 y0 = (hi * 18446744073709551616 + lo) / y := by rw [hV]; exact quo_end hH (by rw [← hV]; exact hH1) hP0 (by omega) hLe k7
                exact ⟨_, by rw [he], Mem.trans0 hbs hM.nilL⟩
            ·
              refine Ends.region ?_
              refine S.val hA (R.move rfl) rfl ?_; clear hA a; intro a hA
              refine S.val hA (R.geq rfl rfl) rfl ?_; clear hA a; intro a hA
              refine S.val hA (R.move rfl) rfl ?_; clear hA a; intro a hA
              refine hA.split (d := 104) rfl ?_ ?_
              · clear hA; intro hg11 hA
                refine S.no (dj := 104) hA (by kernel_rfl) rfl rfl rfl ?_; clear hA a; intro a hA
                refine S.no (dj := 104) hA (by kernel_rfl) rfl rfl rfl ?_; clear hA a; intro a hA
                refine S.no (dj := 104) hA (by kernel_rfl) rfl rfl rfl ?_; clear hA a; intro a hA
                refine S.no (dj := 104) hA (by kernel_rfl) rfl rfl rfl ?_; clear hA a; intro a hA
                refine S.no (dj := 104) hA (by kernel_rfl) rfl rfl rfl ?_; clear hA a; intro a hA
                refine S.no (dj := 104) hA (by kernel_rfl) rfl rfl rfl ?_; clear hA a; intro a hA
                refine S.no (dj := 104) hA (by kernel_rfl) rfl rfl rfl ?_; clear hA a; intro a hA
                refine S.no (dj := 104) hA (by kernel_rfl) rfl rfl rfl ?_; clear hA a; intro a hA
                refine S.val hA (R.pickT rfl rfl) rfl ?_; clear hA a; intro a hA
                refine S.done ?_
                replace hA : St 135 [(2, _), (8, _), (9, _), (10, _), (14, _), (15, _), (16, _), (17, _), (18, _), (113, _)] a := hA.sub ((.cons rfl (.cons rfl (.cons rfl (.cons rfl (.cons rfl (.cons rfl (.cons rfl (.cons rfl (.cons rfl (.cons rfl .nil)))))))))))
                exact hJ _ _ ⟨hA.sub (.cons rfl (.cons rfl (.cons rfl (.cons rfl (.cons rfl (.cons rfl (.cons rfl (.cons rfl (.cons rfl (.cons (by first | rfl | exact congrArg (fun b => some (Value.bool b)) (by first | exact decide_eq_decide.2 (by omega) | exact or_bool (by omega) | exact and_bool (by omega) | (simp; done) | (simp [hg11]; done) | (have h80 := hg11; (try simp at h80); simp [h80]; done) | exact (decide_eq_false (fun h9 => hg11 h9.1)).symm)) .nil)))))))))), hM⟩
              · clear hA; intro hg11 hA
                refine S.valg (dj := 104) hA (by kernel_rfl) rfl (R.move rfl) rfl ?_; clear hA a; intro a hA
                refine S.valg (dj := 104) hA (by kernel_rfl) rfl (R.move rfl) rfl ?_; clear hA a; intro a hA
                refine S.valg (dj := 104) hA (by kernel_rfl) rfl (R.to (v := .int .u64 (q * y0)) (R.mul rfl rfl) (congrArg (Value.int .u64) (u64w (Try2.mul0 hH1 ht (by omega)).2.1 (Try2.mul0 hH1 ht (by omega)).2.2))) rfl ?_; clear hA a; intro a hA
                refine S.valg (dj := 104) hA (by kernel_rfl) rfl (R.move rfl) rfl ?_; clear hA a; intro a hA
                refine S.valg (dj := 104) hA (by kernel_rfl) rfl (R.to (v := .int .u64 (4294967296 * r)) (R.mul rfl rfl) (congrArg (Value.int .u64) (u64w (by have := ht.r0; omega) (by have := ht.r0; omega)))) rfl ?_; clear hA a; intro a hA
                refine S.valg (dj := 104) hA (by kernel_rfl) rfl (R.move rfl) rfl ?_; clear hA a; intro a hA
                refine S.valg (dj := 104) hA (by kernel_rfl) rfl (R.to (v := .int .u64 (4294967296 * r + v0)) (R.add rfl rfl) (congrArg (Value.int .u64) (u64w (by have := ht.r0; have := hH1.v0; omega) (by have := ht.r0; have := hH1.v0; omega)))) rfl ?_; clear hA a; intro a hA
                refine S.valg (dj := 104) hA (by kernel_rfl) rfl (R.gtr rfl rfl) rfl ?_; clear hA a; intro a hA
                refine S.val hA (R.pickF rfl rfl) rfl ?_; clear hA a; intro a hA
                refine S.done ?_
                replace hA : St 135 [(2, _), (8, _), (9, _), (10, _), (14, _), (15, _), (16, _), (17, _), (18, _), (113, _)] a := hA.sub ((.cons rfl (.cons rfl (.cons rfl (.cons rfl (.cons rfl (.cons rfl (.cons rfl (.cons rfl (.cons rfl (.cons rfl .nil)))))))))))
                exact hJ _ _ ⟨hA.sub (.cons rfl (.cons rfl (.cons rfl (.cons rfl (.cons rfl (.cons rfl (.cons rfl (.cons rfl (.cons rfl (.cons (by first | rfl | exact congrArg (fun b => some (Value.bool b)) (by first | exact decide_eq_decide.2 (by omega) | exact or_bool (by omega) | exact and_bool (by omega) | (simp; done) | (simp [hg11]; done) | (have h80 := hg11; (try simp at h80); simp [h80]; done) | exact (decide_eq_false (fun h9 => hg11 h9.1)).symm)) .nil)))))))))), hM⟩
        ·
          refine Ends.region ?_
          refine S.val hA (R.move rfl) rfl ?_; clear hA a; intro a hA
          refine S.val hA (R.geq rfl rfl) rfl ?_; clear hA a; intro a hA
          refine S.val hA (R.move rfl) rfl ?_; clear hA a; intro a hA
          refine hA.split (d := 69) rfl ?_ ?_
          · clear hA; intro hg12 hA
            refine S.no (dj := 69) hA (by kernel_rfl) rfl rfl rfl ?_; clear hA a; intro a hA
            refine S.no (dj := 69) hA (by kernel_rfl) rfl rfl rfl ?_; clear hA a; intro a hA
            refine S.no (dj := 69) hA (by kernel_rfl) rfl rfl rfl ?_; clear hA a; intro a hA
            refine S.no (dj := 69) hA (by kernel_rfl) rfl rfl rfl ?_; clear hA a; intro a hA
            refine S.no (dj := 69) hA (by kernel_rfl) rfl rfl rfl ?_; clear hA a; intro a hA
            refine S.no (dj := 69) hA (by kernel_rfl) rfl rfl rfl ?_; clear hA a; intro a hA
            refine S.no (dj := 69) hA (by kernel_rfl) rfl rfl rfl ?_; clear hA a; intro a hA
            refine S.no (dj := 69) hA (by kernel_rfl) rfl rfl rfl ?_; clear hA a; intro a hA
            refine S.val hA (R.pickT rfl rfl) rfl ?_; clear hA a; intro a hA
            refine S.done ?_
            replace hA : St 135 [(2, _), (8, _), (9, _), (10, _), (11, _), (13, _), (14, _), (15, _), (16, _), (78, _)] a := hA.sub ((.cons rfl (.cons rfl (.cons rfl (.cons rfl (.cons rfl (.cons rfl (.cons rfl (.cons rfl (.cons rfl (.cons rfl .nil)))))))))))
            exact hJ _ _ ⟨hA.sub (.cons rfl (.cons rfl (.cons rfl (.cons rfl (.cons rfl (.cons rfl (.cons rfl (.cons rfl (.cons rfl (.cons (by first | rfl | exact congrArg (fun b => some (Value.bool b)) (by first | exact decide_eq_decide.2 (by omega) | exact or_bool (by omega) | exact and_bool (by omega) | (simp; done) | (simp [hg12]; done) | (have h80 := hg12; (try simp at h80); simp [h80]; done) | exact (decide_eq_false (fun h9 => hg12 h9.1)).symm)) .nil)))))))))), hM⟩
          · clear hA; intro hg12 hA
            refine S.valg (dj := 69) hA (by kernel_rfl) rfl (R.move rfl) rfl ?_; clear hA a; intro a hA
            refine S.valg (dj := 69) hA (by kernel_rfl) rfl (R.move rfl) rfl ?_; clear hA a; intro a hA
            refine S.valg (dj := 69) hA (by kernel_rfl) rfl (R.to (v := .int .u64 (q * y0)) (R.mul rfl rfl) (congrArg (Value.int .u64) (u64w (Try2.mul0 hH ht (by omega)).2.1 (Try2.mul0 hH ht (by omega)).2.2))) rfl ?_; clear hA a; intro a hA
            refine S.valg (dj := 69) hA (by kernel_rfl) rfl (R.move rfl) rfl ?_; clear hA a; intro a hA
            refine S.valg (dj := 69) hA (by kernel_rfl) rfl (R.to (v := .int .u64 (4294967296 * r)) (R.mul rfl rfl) (congrArg (Value.int .u64) (u64w (by have := ht.r0; omega) (by have := ht.r0; omega)))) rfl ?_; clear hA a; intro a hA
            refine S.valg (dj := 69) hA (by kernel_rfl) rfl (R.move rfl) rfl ?_; clear hA a; intro a hA
            refine S.valg (dj := 69) hA (by kernel_rfl) rfl (R.to (v := .int .u64 (4294967296 * r + v1)) (R.add rfl rfl) (congrArg (Value.int .u64) (u64w (by have := ht.r0; have := hH.v0; omega) (by have := ht.r0; have := hH.v0; omega)))) rfl ?_; clear hA a; intro a hA
            refine S.valg (dj := 69) hA (by kernel_rfl) rfl (R.gtr rfl rfl) rfl ?_; clear hA a; intro a hA
            refine S.val hA (R.pickF rfl rfl) rfl ?_; clear hA a; intro a hA
            refine S.done ?_
            replace hA : St 135 [(2, _), (8, _), (9, _), (10, _), (11, _), (13, _), (14, _), (15, _), (16, _), (78, _)] a := hA.sub ((.cons rfl (.cons rfl (.cons rfl (.cons rfl (.cons rfl (.cons rfl (.cons rfl (.cons rfl (.cons rfl (.cons rfl .nil)))))))))))
            exact hJ _ _ ⟨hA.sub (.cons rfl (.cons rfl (.cons rfl (.cons rfl (.cons rfl (.cons rfl (.cons rfl (.cons rfl (.cons rfl (.cons (by first | rfl | exact congrArg (fun b => some (Value.bool b)) (by first | exact decide_eq_decide.2 (by omega) | exact or_bool (by omega) | exact and_bool (by omega) | (simp; done) | (simp [hg12]; done) | (have h80 := hg12; (try simp at h80); simp [h80]; done) | exact (decide_eq_false (fun h9 => hg12 h9.1)).symm)) .nil)))))))))), hM⟩
def partB (p q c : Int) : Bool := decide (¬ ((p < 0 ∨ q < 0) ∨ c ≤ 0) ∧ p * q / c ≤ 9223372036854775807)
def partN (p q c : Int) : Int := if partB p q c = true then p * q / c else 0
theorem part_no {p q c : Int} (h : ((p < 0 ∨ q < 0) ∨ c ≤ 0) ∨ 9223372036854775807 < p * q / c) : partN p q c = 0 ∧ partB p q c = false := by
  have e : partB p q c = false := decide_eq_false (fun g => by rcases h with h | h; exact g.1 h; omega)
  exact ⟨by unfold partN; rw [e]; rfl, e⟩
theorem part_yes {p q c : Int} (h : ¬ ((p < 0 ∨ q < 0) ∨ c ≤ 0)) (g : p * q / c ≤ 9223372036854775807) : partN p q c = p * q / c ∧ partB p q c = true := by
  have e : partB p q c = true := decide_eq_true ⟨h, g⟩
  exact ⟨by unfold partN; rw [if_pos e], e⟩
theorem div64Z (Z : Nat) (c : Int) (h : ((Z / 18446744073709551616 : Nat) : Int) < c) (hc : c ≤ 18446744073709551615) (w : World) :
    Calls Try.prog 69 #[.int .u64 ((Z / 18446744073709551616 : Nat) : Int), .int .u64 ((Z % 18446744073709551616 : Nat) : Int), .int .u64 c] w fun e w' => ∃ r, e = .returned (.tuple #[.int .u64 ((Z : Int) / c), .int .u64 r]) ∧ Below w.heap.size w w' := by
  have := div64 ((Z / 18446744073709551616 : Nat) : Int) ((Z % 18446744073709551616 : Nat) : Int) c ⟨by omega, h⟩ ⟨by omega, by omega⟩ hc w
  rwa [show ((Z / 18446744073709551616 : Nat) : Int) * 18446744073709551616 + ((Z % 18446744073709551616 : Nat) : Int) = (Z : Int) by omega] at this
set_option maxRecDepth 100000 in
set_option maxHeartbeats 400000 in
theorem part_any (p q c : Int) (p0 : -9223372036854775808 ≤ p) (p1 : p ≤ 9223372036854775807) (q0 : -9223372036854775808 ≤ q) (q1 : q ≤ 9223372036854775807) (c0 : -9223372036854775808 ≤ c) (c1 : c ≤ 9223372036854775807) (w : World) :
    Calls Try.prog 35 #[.int .i64 p, .int .i64 q, .int .i64 c] w fun e w' => e = .returned (.tuple #[.int .i64 (partN p q c), .bool (partB p q c)]) ∧ Below w.heap.size w w' := by
  have hbs := Below.refl (B := w.heap.size) w
  have hM := Mem.start w
  refine Calls.of_ends (vs := [.int .i64 p, .int .i64 q, .int .i64 c]) Try.func35 rfl Try.ntmps35 rfl ?_
  intro a hA
  replace hA : St 46 [(0, _), (1, _), (2, _)] a := hA
  refine Ends.seq ?_
  refine Ends.region ?_
  refine S.val hA (R.assign rfl) rfl ?_; clear hA a; intro a hA
  refine S.val hA (R.assign rfl) rfl ?_; clear hA a; intro a hA
  refine S.done ?_
  replace hA : St 46 [(0, _), (1, _), (2, _)] a := hA.sub ((.cons rfl (.cons rfl (.cons rfl .nil))))
  refine Ends.seq ?_
  refine Ends.seq ?_
  refine Ends.cut (fun (a : Act) (wv : World) => St 46 [(0, .int .i64 p), (1, .int .i64 q), (2, .int .i64 c), (21, .bool (decide (((p < 0 ∨ q < 0) ∨ c ≤ 0))))] a ∧ Mem w nof [] wv) ?_ (fun k2 hJ => ?_)
  · clear hA hM a; rintro a w1 ⟨hA, hM⟩
    refine Ends.ite hA rfl (fun hc1 => ?_) (fun hc1 => ?_)
    ·
      refine Ends.seq ?_
      refine Ends.region ?_
      refine S.val hA (R.assign rfl) rfl ?_; clear hA a; intro a hA
      refine S.val hA (R.assign rfl) rfl ?_; clear hA a; intro a hA
      refine S.done ?_
      replace hA : St 46 [(0, _), (1, _), (2, _), (6, _), (7, _)] a := hA.sub ((.cons rfl (.cons rfl (.cons rfl (.cons rfl (.cons rfl .nil))))))
      refine Ends.ret2 Try.func35 Try.results35 hA rfl rfl ?_
      obtain ⟨e1, e2⟩ := part_no (p := p) (q := q) (c := c) (.inl hc1)
      exact ⟨by rw [e1, e2], Mem.trans0 hbs hM.nilL⟩
    ·
      refine Ends.skip ?_
      refine Ends.seq ?_
      obtain ⟨Z, hZ⟩ : ∃ Z, Z = p.toNat * q.toNat := ⟨_, rfl⟩
      have hZe : (Z : Int) = p * q := by rw [hZ, Int.natCast_mul, Int.toNat_of_nonneg (by omega), Int.toNat_of_nonneg (by omega)]
      have hm := Try.bits_Mul64 p.toNat q.toNat (by omega) (by omega)
      rw [← hZ] at hm
      refine Ends.region ?_
      refine S.val hA (R.move rfl) rfl ?_; clear hA a; intro a hA
      refine S.val hA (R.to (v := .int .u64 ((p.toNat : Int))) (R.conv Try.underlying22 Try.underlying3 rfl) (congrArg (Value.int .u64) ((by rw [u64w (by omega) (by omega)]; omega)))) rfl ?_; clear hA a; intro a hA
      refine S.val hA (R.move rfl) rfl ?_; clear hA a; intro a hA
      refine S.val hA (R.to (v := .int .u64 ((q.toNat : Int))) (R.conv Try.underlying22 Try.underlying3 rfl) (congrArg (Value.int .u64) ((by rw [u64w (by omega) (by omega)]; omega)))) rfl ?_; clear hA a; intro a hA
      refine S.call hA (R.callF Try.func65 rfl rfl rfl) rfl ((hm _)) ?_; clear hA a
      rintro e w2 ⟨rfl, rfl⟩
      refine ⟨.tuple #[.int .u64 (((Z / 18446744073709551616 : Nat) : Int)), .int .u64 (((Z % 18446744073709551616 : Nat) : Int))], rfl, fun a hA => ?_⟩
      refine S.val hA (R.move rfl) rfl ?_; clear hA a; intro a hA
      refine S.val hA (R.extract (v := .int .u64 (((Z / 18446744073709551616 : Nat) : Int))) rfl rfl) rfl ?_; clear hA a; intro a hA
      refine S.val hA (R.extract (v := .int .u64 (((Z % 18446744073709551616 : Nat) : Int))) rfl rfl) rfl ?_; clear hA a; intro a hA
      refine S.val hA (R.assign rfl) rfl ?_; clear hA a; intro a hA
      refine S.val hA (R.assign rfl) rfl ?_; clear hA a; intro a hA
      refine S.done ?_
      replace hA : St 46 [(2, _), (8, _), (9, _)] a := hA.sub ((.cons rfl (.cons rfl (.cons rfl .nil))))
      refine Ends.seq ?_
      refine Ends.seq ?_
      refine Ends.region ?_
      refine S.val hA (R.move rfl) rfl ?_; clear hA a; intro a hA
      refine S.val hA (R.move rfl) rfl ?_; clear hA a; intro a hA
      refine S.val hA (R.to (v := .int .u64 (c)) (R.conv Try.underlying22 Try.underlying3 rfl) (congrArg (Value.int .u64) (u64w (by omega) (by omega)))) rfl ?_; clear hA a; intro a hA
      refine S.val hA (R.geq rfl rfl) rfl ?_; clear hA a; intro a hA
      refine S.done ?_
      replace hA : St 46 [(2, _), (8, _), (9, _), (33, _)] a := hA.sub ((.cons rfl (.cons rfl (.cons rfl (.cons rfl .nil)))))
      refine Ends.ite hA rfl (fun hc2 => ?_) (fun hc2 => ?_)
      ·
        refine Ends.seq ?_
        refine Ends.region ?_
        refine S.val hA (R.assign rfl) rfl ?_; clear hA a; intro a hA
        refine S.val hA (R.assign rfl) rfl ?_; clear hA a; intro a hA
        refine S.done ?_
        replace hA : St 46 [(2, _), (6, _), (7, _), (8, _), (9, _)] a := hA.sub ((.cons rfl (.cons rfl (.cons rfl (.cons rfl (.cons rfl .nil))))))
        refine Ends.ret2 Try.func35 Try.results35 hA rfl rfl ?_
        obtain ⟨e1, e2⟩ := part_no (p := p) (q := q) (c := c) (.inr (by have h9 : 18446744073709551616 ≤ p * q / c := Int.le_ediv_of_mul_le (by omega) (by omega); omega))
        exact ⟨by rw [e1, e2], Mem.trans0 hbs hM.nilL⟩
      ·
        refine Ends.skip ?_
        refine Ends.seq ?_
        refine Ends.region ?_
        refine S.val hA (R.move rfl) rfl ?_; clear hA a; intro a hA
        refine S.val hA (R.move rfl) rfl ?_; clear hA a; intro a hA
        refine S.val hA (R.move rfl) rfl ?_; clear hA a; intro a hA
        refine S.val hA (R.to (v := .int .u64 (c)) (R.conv Try.underlying22 Try.underlying3 rfl) (congrArg (Value.int .u64) (u64w (by omega) (by omega)))) rfl ?_; clear hA a; intro a hA
        refine S.call hA (R.callF Try.func69 rfl rfl rfl) rfl (div64Z Z c (by omega) (by omega) _) ?_; clear hA a
        rintro e w3 ⟨rr, rfl, hb⟩
        replace hM := hM.callB hb; clear hb
        refine ⟨.tuple #[.int .u64 (((Z : Int) / c)), .int .u64 rr], rfl, fun a hA => ?_⟩
        refine S.val hA (R.move rfl) rfl ?_; clear hA a; intro a hA
        refine S.val hA (R.extract (v := .int .u64 (((Z : Int) / c))) rfl rfl) rfl ?_; clear hA a; intro a hA
        refine S.val hA (R.extract (v := .int .u64 rr) rfl rfl) rfl ?_; clear hA a; intro a hA
        refine S.val hA (R.assign rfl) rfl ?_; clear hA a; intro a hA
        refine S.val hA (R.assign rfl) rfl ?_; clear hA a; intro a hA
        refine S.done ?_
        replace hA : St 46 [(10, _)] a := hA.sub ((.cons rfl .nil))
        refine Ends.seq ?_
        refine Ends.seq ?_
        have hz0 : 0 ≤ (Z : Int) / c := Int.ediv_nonneg (by omega) (by omega)
        refine Ends.region ?_
        refine S.val hA (R.move rfl) rfl ?_; clear hA a; intro a hA
        refine S.val hA (R.gtr rfl rfl) rfl ?_; clear hA a; intro a hA
        refine S.done ?_
        replace hA : St 46 [(10, _), (43, _)] a := hA.sub ((.cons rfl (.cons rfl .nil)))
        refine Ends.ite hA rfl (fun hc3 => ?_) (fun hc3 => ?_)
        ·
          refine Ends.seq ?_
          refine Ends.region ?_
          refine S.val hA (R.assign rfl) rfl ?_; clear hA a; intro a hA
          refine S.val hA (R.assign rfl) rfl ?_; clear hA a; intro a hA
          refine S.done ?_
          replace hA : St 46 [(6, _), (7, _), (10, _)] a := hA.sub ((.cons rfl (.cons rfl (.cons rfl .nil))))
          refine Ends.ret2 Try.func35 Try.results35 hA rfl rfl ?_
          obtain ⟨e1, e2⟩ := part_no (p := p) (q := q) (c := c) (.inr (by rw [← hZe]; exact hc3))
          exact ⟨by rw [e1, e2], Mem.trans0 hbs hM.nilL⟩
        ·
          refine Ends.skip ?_
          refine Ends.seq ?_
          refine Ends.region ?_
          refine S.val hA (R.move rfl) rfl ?_; clear hA a; intro a hA
          refine S.val hA (R.to (v := .int .i64 (((Z : Int) / c))) (R.conv Try.underlying3 Try.underlying22 rfl) (congrArg (Value.int .i64) (IntWalk.i64_in _ ⟨by omega, by omega⟩))) rfl ?_; clear hA a; intro a hA
          refine S.val hA (R.assign rfl) rfl ?_; clear hA a; intro a hA
          refine S.val hA (R.assign rfl) rfl ?_; clear hA a; intro a hA
          refine S.done ?_
          replace hA : St 46 [(6, _), (7, _)] a := hA.sub ((.cons rfl (.cons rfl .nil)))
          refine Ends.ret2 Try.func35 Try.results35 hA rfl rfl ?_
          obtain ⟨e1, e2⟩ := part_yes hc1 (by rw [← hZe]; omega)
          exact ⟨by rw [e1, e2, ← hZe], Mem.trans0 hbs hM.nilL⟩
  ·
    refine Ends.region ?_
    refine S.val hA (R.move rfl) rfl ?_; clear hA a; intro a hA
    refine S.val hA (R.lss rfl rfl) rfl ?_; clear hA a; intro a hA
    refine S.val hA (R.move rfl) rfl ?_; clear hA a; intro a hA
    refine hA.split (d := 14) rfl ?_ ?_
    · clear hA; intro hg4 hA
      refine S.no (dj := 14) hA (by kernel_rfl) rfl rfl rfl ?_; clear hA a; intro a hA
      refine S.no (dj := 14) hA (by kernel_rfl) rfl rfl rfl ?_; clear hA a; intro a hA
      refine S.val hA (R.pickT rfl rfl) rfl ?_; clear hA a; intro a hA
      refine S.val hA (R.move rfl) rfl ?_; clear hA a; intro a hA
      refine S.no (dj := 18) hA (by kernel_rfl) rfl rfl rfl ?_; clear hA a; intro a hA
      refine S.no (dj := 18) hA (by kernel_rfl) rfl rfl rfl ?_; clear hA a; intro a hA
      refine S.val hA (R.pickT rfl rfl) rfl ?_; clear hA a; intro a hA
      refine S.done ?_
      replace hA : St 46 [(0, _), (1, _), (2, _), (21, _)] a := hA.sub ((.cons rfl (.cons rfl (.cons rfl (.cons rfl .nil)))))
      exact hJ _ _ ⟨hA.sub (.cons rfl (.cons rfl (.cons rfl (.cons (by first | rfl | exact congrArg (fun b => some (Value.bool b)) (by first | exact decide_eq_decide.2 (by omega) | exact or_bool (by omega) | exact and_bool (by omega) | (simp; done) | (simp [hg4]; done) | (have h80 := hg4; (try simp at h80); simp [h80]; done) | exact (decide_eq_false (fun h9 => hg4 h9.1)).symm)) .nil)))), hM⟩
    · clear hA; intro hg4 hA
      refine S.valg (dj := 14) hA (by kernel_rfl) rfl (R.move rfl) rfl ?_; clear hA a; intro a hA
      refine S.valg (dj := 14) hA (by kernel_rfl) rfl (R.lss rfl rfl) rfl ?_; clear hA a; intro a hA
      refine S.val hA (R.pickF rfl rfl) rfl ?_; clear hA a; intro a hA
      refine S.val hA (R.move rfl) rfl ?_; clear hA a; intro a hA
      refine hA.split (d := 18) rfl ?_ ?_
      · clear hA; intro hg5 hA
        refine S.no (dj := 18) hA (by kernel_rfl) rfl rfl rfl ?_; clear hA a; intro a hA
        refine S.no (dj := 18) hA (by kernel_rfl) rfl rfl rfl ?_; clear hA a; intro a hA
        refine S.val hA (R.pickT rfl rfl) rfl ?_; clear hA a; intro a hA
        refine S.done ?_
        replace hA : St 46 [(0, _), (1, _), (2, _), (21, _)] a := hA.sub ((.cons rfl (.cons rfl (.cons rfl (.cons rfl .nil)))))
        exact hJ _ _ ⟨hA.sub (.cons rfl (.cons rfl (.cons rfl (.cons (by first | rfl | exact congrArg (fun b => some (Value.bool b)) (by first | exact decide_eq_decide.2 (by omega) | exact or_bool (by omega) | exact and_bool (by omega) | (simp; done) | (simp [hg4, hg5]; done) | (have h80 := hg4; (try simp at h80); have h81 := hg5; (try simp at h81); simp [h80, h81]; done) | exact (decide_eq_false (fun h9 => hg4 h9.1)).symm | exact (decide_eq_false (fun h9 => hg5 h9.1)).symm)) .nil)))), hM⟩
      · clear hA; intro hg5 hA
        refine S.valg (dj := 18) hA (by kernel_rfl) rfl (R.move rfl) rfl ?_; clear hA a; intro a hA
        refine S.valg (dj := 18) hA (by kernel_rfl) rfl (R.leq rfl rfl) rfl ?_; clear hA a; intro a hA
        refine S.val hA (R.pickF rfl rfl) rfl ?_; clear hA a; intro a hA
        refine S.done ?_
        replace hA : St 46 [(0, _), (1, _), (2, _), (21, _)] a := hA.sub ((.cons rfl (.cons rfl (.cons rfl (.cons rfl .nil)))))
        exact hJ _ _ ⟨hA.sub (.cons rfl (.cons rfl (.cons rfl (.cons (by first | rfl | exact congrArg (fun b => some (Value.bool b)) (by first | exact decide_eq_decide.2 (by omega) | exact or_bool (by omega) | exact and_bool (by omega) | (simp; done) | (simp [hg4, hg5]; done) | (have h80 := hg4; (try simp at h80); have h81 := hg5; (try simp at h81); simp [h80, h81]; done) | exact (decide_eq_false (fun h9 => hg4 h9.1)).symm | exact (decide_eq_false (fun h9 => hg5 h9.1)).symm)) .nil)))), hM⟩
theorem cmpI_nn {z : Int} (h : 0 ≤ z) : 0 ≤ cmpI z := by unfold cmpI; (repeat' split) <;> omega
theorem cmpI_ng {z : Int} (h : z < 0) : cmpI z < 0 := by unfold cmpI; (repeat' split) <;> omega
set_option maxRecDepth 100000 in
set_option maxHeartbeats 1000000 in
theorem arithParts_w (p q c : Int) (p0 : -9223372036854775808 ≤ p) (p1 : p ≤ 9223372036854775807) (q0 : -9223372036854775808 ≤ q) (q1 : q ≤ 9223372036854775807) (c0 : -9223372036854775808 ≤ c) (c1 : c ≤ 9223372036854775807) (w : World) :
    Calls Try.prog 10 #[.int .i64 p, .int .i64 q, .int .i64 c] w fun e w' => e = .returned (.bool true) ∧ Below w.heap.size w w' := by
  have hbs := Below.refl (B := w.heap.size) w
  have hM := Mem.start w
  refine Calls.of_ends (vs := [.int .i64 p, .int .i64 q, .int .i64 c]) Try.func10 rfl Try.ntmps10 rfl ?_
  intro a hA
  replace hA : St 81 [(0, _), (1, _), (2, _)] a := hA
  refine Ends.seq ?_
  refine Ends.region ?_
  refine S.val hA (R.assign rfl) rfl ?_; clear hA a; intro a hA
  refine S.done ?_
  replace hA : St 81 [(0, _), (1, _), (2, _)] a := hA.sub ((.cons rfl (.cons rfl (.cons rfl .nil))))
  refine Ends.seq ?_
  refine Ends.region ?_
  refine S.val hA (R.move rfl) rfl ?_; clear hA a; intro a hA
  refine S.val hA (R.move rfl) rfl ?_; clear hA a; intro a hA
  refine S.val hA (R.move rfl) rfl ?_; clear hA a; intro a hA
  refine S.call hA (R.callF Try.func35 rfl rfl rfl) rfl (part_any p q c p0 p1 q0 q1 c0 c1 _) ?_; clear hA a
  rintro e w1 ⟨rfl, hb⟩
  replace hM := hM.callB hb; clear hb
  refine ⟨.tuple #[.int .i64 ((partN p q c)), .bool ((partB p q c))], rfl, fun a hA => ?_⟩
  refine S.val hA (R.move rfl) rfl ?_; clear hA a; intro a hA
  refine S.val hA (R.extract (v := .int .i64 ((partN p q c))) rfl rfl) rfl ?_; clear hA a; intro a hA
  refine S.val hA (R.extract (v := .bool ((partB p q c))) rfl rfl) rfl ?_; clear hA a; intro a hA
  refine S.val hA (R.assign rfl) rfl ?_; clear hA a; intro a hA
  refine S.val hA (R.assign rfl) rfl ?_; clear hA a; intro a hA
  refine S.done ?_
  replace hA : St 81 [(0, _), (1, _), (2, _), (7, _), (8, _)] a := hA.sub ((.cons rfl (.cons rfl (.cons rfl (.cons rfl (.cons rfl .nil))))))
  refine Ends.seq ?_
  refine Ends.seq ?_
  refine Ends.region ?_
  refine S.call hA (R.callF Try.func19 rfl rfl rfl) rfl (counts_any _) ?_; clear hA a
  rintro e w2 ⟨rfl, hb⟩
  replace hM := hM.callB hb; clear hb
  refine ⟨.bool true, rfl, fun a hA => ?_⟩
  refine S.val hA (R.not rfl) rfl ?_; clear hA a; intro a hA
  refine S.done ?_
  replace hA : St 81 [(0, _), (1, _), (2, _), (7, _), (8, _), (20, _)] a := hA.sub ((.cons rfl (.cons rfl (.cons rfl (.cons rfl (.cons rfl (.cons rfl .nil)))))))
  refine Ends.condF hA rfl ?_
  refine Ends.skip ?_
  refine Ends.seq ?_
  refine Ends.seq ?_
  refine Ends.cut (fun (a : Act) (wv : World) => St 81 [(0, .int .i64 p), (1, .int .i64 q), (2, .int .i64 c), (7, .int .i64 ((partN p q c))), (8, .bool ((partB p q c))), (30, .bool (decide (((p < 0 ∨ q < 0) ∨ c ≤ 0))))] a ∧ Mem w nof [] wv) ?_ (fun k2 hJ => ?_)
  · clear hA hM a; rintro a w3 ⟨hA, hM⟩
    refine Ends.ite hA rfl (fun hc1 => ?_) (fun hc1 => ?_)
    ·
      obtain ⟨e1, e2⟩ := part_no (.inl hc1)
      rw [e1, e2] at hA
      refine Ends.seq ?_
      refine Ends.region ?_
      refine S.val hA (R.move rfl) rfl ?_; clear hA a; intro a hA
      refine S.val hA (R.not rfl) rfl ?_; clear hA a; intro a hA
      refine S.val hA (R.move rfl) rfl ?_; clear hA a; intro a hA
      refine S.valg (dj := 33) hA (by kernel_rfl) rfl (R.move rfl) rfl ?_; clear hA a; intro a hA
      refine S.valg (dj := 33) hA (by kernel_rfl) rfl (R.tt (R.eql rfl rfl) (by first | decide | simp | omega)) rfl ?_; clear hA a; intro a hA
      refine S.val hA (R.pickT rfl rfl) rfl ?_; clear hA a; intro a hA
      refine S.val hA (R.assign rfl) rfl ?_; clear hA a; intro a hA
      refine S.done ?_
      replace hA : St 81 [(0, _), (1, _), (2, _), (6, _), (7, _), (8, _)] a := hA.sub ((.cons rfl (.cons rfl (.cons rfl (.cons rfl (.cons rfl (.cons rfl .nil)))))))
      refine Ends.ret1 Try.func10 Try.results10 hA rfl ?_
      exact ⟨rfl, Mem.trans0 hbs hM.nilL⟩
    ·
      refine Ends.skip ?_
      refine Ends.seq ?_
      by_cases hs2 : p * q / c ≤ 9223372036854775807
      ·
        obtain ⟨e1, e2⟩ := part_yes hc1 hs2
        obtain ⟨t, ht⟩ : ∃ t, t = p * q / c := ⟨_, rfl⟩
        have hok := hs2
        rw [e1, e2, ← ht] at hA
        rw [← ht] at hok
        have pq0 : 0 ≤ p * q := Int.mul_nonneg (by omega) (by omega)
        have t0 : 0 ≤ t := by rw [ht]; exact Int.ediv_nonneg pq0 (by omega)
        have t1 : t * c ≤ p * q := by rw [ht, Int.mul_comm]; exact Int.mul_ediv_self_le (by omega)
        have t2 : p * q < t * c + c := by rw [ht, Int.mul_comm (p * q / c)]; exact Int.lt_mul_ediv_self_add (by omega)
        refine Ends.region ?_
        refine S.val hA (R.move rfl) rfl ?_; clear hA a; intro a hA
        refine S.call hA (R.callF Try.func22 rfl rfl rfl) rfl (num_v p (by omega) (by omega) _) ?_; clear hA a
        rintro e w4 ⟨x3, rfl, sg4, hb⟩
        replace hM := hM.callB hb; clear hb
        refine ⟨.agg x3, rfl, fun a hA => ?_⟩
        refine S.val hA (R.move rfl) rfl ?_; clear hA a; intro a hA
        refine S.call hA (R.callF Try.func22 rfl rfl rfl) rfl (num_v q (by omega) (by omega) _) ?_; clear hA a
        rintro e w5 ⟨x5, rfl, sg6, hb⟩
        replace hM := hM.callB hb; clear hb
        refine ⟨.agg x5, rfl, fun a hA => ?_⟩
        refine S.call hA (R.callF Try.func21 rfl rfl rfl) rfl (mul_v sg4 sg6 ((Lt.int (by omega) (by omega)).up (by decide)) ((Lt.int (by omega) (by omega)).up (by decide)) _) ?_; clear hA a
        rintro e w6 ⟨x7, rfl, sg8, hb⟩
        replace hM := hM.callB hb; clear hb
        refine ⟨.agg x7, rfl, fun a hA => ?_⟩
        refine S.alloc hA hM info32 rfl rfl ?_; clear hA hM a; intro b9 w7 hb10 hM a hA
        replace hM : Mem _ _ [pt b9 #[.bool false, .int .i64 0, .int .i64 0, .int .i64 0, .int .i64 0, .int .i64 0, .int .i64 0, .int .i64 0, .int .i64 0, .int .i64 0] 32] _ := hM
        refine S.storeW (k := 0) hA hM sz32 rfl rfl sg8.size sg8.one rfl rfl ?_; clear hM
        intro w8 hM
        replace hM : Mem _ _ [pt b9 x7 32] _ := hM
        refine S.done ?_
        replace hA : St 81 [(2, _), (7, _), (8, _), (9, _)] a := hA.sub ((.cons rfl (.cons rfl (.cons rfl (.cons rfl .nil)))))
        refine Ends.seq ?_
        refine Ends.seq ?_
        refine Ends.region ?_
        refine S.val hA (R.move rfl) rfl ?_; clear hA a; intro a hA
        refine S.val hA (R.not rfl) rfl ?_; clear hA a; intro a hA
        refine S.done ?_
        replace hA : St 81 [(2, _), (7, _), (9, _), (43, _)] a := hA.sub ((.cons rfl (.cons rfl (.cons rfl (.cons rfl .nil)))))
        refine Ends.condF hA rfl ?_
        refine Ends.skip ?_
        refine Ends.seq ?_
        refine Ends.drawn (Mem w nof [pt b9 x7 32]) (.cons (0, true) (.cons (1, true) (.cons (3, true) (.fork 2 8 (.fork 4 8 (.fork 5 8 (.fork 6 8 (.fork 7 8 (.cons (8, false) (.cons (9, false) .nil)) (.cons (7, false) (.cons (9, false) .nil))) (.cons (6, false) (.cons (7, false) (.cons (9, false) .nil)))) (.cons (5, false) (.cons (6, false) (.cons (7, false) (.cons (9, false) .nil))))) (.cons (4, false) (.cons (5, false) (.cons (6, false) (.cons (7, false) (.cons (9, false) .nil)))))) (.cons (2, false) (.cons (4, false) (.cons (5, false) (.cons (6, false) (.cons (7, false) (.cons (9, false) .nil)))))))))) 9 mixed (by kernel_rfl) (by kernel_rfl) (by kernel_rfl) hM.drew ?_
        replace hM := hM.drew
        refine D.val hA rfl (by kernel_rfl) (fun _ hM => R.loadW (k := 0) hM sz32 rfl rfl sg8.size) rfl ?_; clear hA a; intro a hA
        refine D.valF hA rfl (fun _ => R.move rfl) rfl ?_; clear hA a; intro a hA
        refine D.valF hA rfl (fun _ => R.move rfl) rfl ?_; clear hA a; intro a hA
        refine D.fork rfl rfl ?_ ?_
        ·
          refine D.call hA rfl (R.callF Try.func22 rfl rfl rfl) rfl (num_v t (by omega) (by omega) _) ?_; clear hA a
          rintro e w9 ⟨x11, rfl, sg12, hb⟩
          replace hM := hM.callB hb; clear hb
          refine ⟨.agg x11, rfl, hM, fun a hA => ?_⟩
          refine D.fork rfl rfl ?_ ?_
          ·
            refine D.call hA rfl (R.callF Try.func22 rfl rfl rfl) rfl (num_v c (by omega) (by omega) _) ?_; clear hA a
            rintro e w10 ⟨x13, rfl, sg14, hb⟩
            replace hM := hM.callB hb; clear hb
            refine ⟨.agg x13, rfl, hM, fun a hA => ?_⟩
            refine D.fork rfl rfl ?_ ?_
            ·
              refine D.call hA rfl (R.callF Try.func21 rfl rfl rfl) rfl (mul_v sg12 sg14 ((Lt.int (by omega) (by omega)).up (by decide)) ((Lt.int (by omega) (by omega)).up (by decide)) _) ?_; clear hA a
              rintro e w11 ⟨x15, rfl, sg16, hb⟩
              replace hM := hM.callB hb; clear hb
              refine ⟨.agg x15, rfl, hM, fun a hA => ?_⟩
              refine D.fork rfl rfl ?_ ?_
              ·
                refine D.call hA rfl (R.callF Try.func33 rfl rfl rfl) rfl (neg_v sg16 _) ?_; clear hA a
                rintro e w12 ⟨x17, rfl, sg18, hb⟩
                replace hM := hM.callB hb; clear hb
                refine ⟨.agg x17, rfl, hM, fun a hA => ?_⟩
                refine D.fork rfl rfl ?_ ?_
                ·
                  refine D.call hA rfl (R.callF Try.func20 rfl rfl rfl) rfl (add_v sg8 sg18 (((Lt.int (by omega) (by omega)).mul (Lt.int (by omega) (by omega))).up (by decide)) (((Lt.int (by omega) (by omega)).mul (Lt.int (by omega) (by omega))).neg.up (by decide)) _) ?_; clear hA a
                  rintro e w13 ⟨x19, rfl, sg20, hb⟩
                  replace hM := hM.callB hb; clear hb
                  refine ⟨.agg x19, rfl, hM, fun a hA => ?_⟩
                  refine D.alloc hA hM rfl info32 rfl rfl ?_; clear hA hM a; intro b21 w14 hb22 hM; refine ⟨(fun hM => hM) hM.tail, fun a hA => ?_⟩
                  replace hM : Mem _ _ [pt b21 #[.bool false, .int .i64 0, .int .i64 0, .int .i64 0, .int .i64 0, .int .i64 0, .int .i64 0, .int .i64 0, .int .i64 0, .int .i64 0] 32, pt b9 x7 32] _ := hM
                  refine D.storeW (k := 0) hA hM rfl sz32 rfl rfl sg20.size sg20.one rfl rfl ?_; clear hM
                  intro w15 hM; refine ⟨fun _ hne => absurd rfl hne, ?_⟩
                  replace hM : Mem _ _ [pt b21 x19 32, pt b9 x7 32] _ := hM
                  refine D.done ?_
                  replace hA : St 81 [(2, _), (7, _), (11, _)] a := hA.sub ((.cons rfl (.cons rfl (.cons rfl .nil))))
                  refine Ends.seq ?_
                  refine Ends.drawn (Mem w nof [pt b21 x19 32, pt b9 x7 32]) (.cons (0, true) (.cons (1, true) (.cons (2, true) (.cons (3, true) (.cons (4, false) (.cons (5, false) (.cons (6, true) (.cons (7, true) (.cons (8, true) (.cons (9, true) (.cons (10, true) (.cons (11, false) (.cons (12, false) (.cons (13, true) (.cons (14, true) (.cons (15, true) .nil)))))))))))))))) 16 mixed (by kernel_rfl) (by kernel_rfl) (by kernel_rfl) hM.drew ?_
                  replace hM := hM.drew
                  refine D.valF hA rfl (fun _ => R.move rfl) rfl ?_; clear hA a; intro a hA
                  refine D.valF hA rfl (fun _ => R.tt (R.geq rfl rfl) (by omega)) rfl ?_; clear hA a; intro a hA
                  refine D.valF hA rfl (fun _ => R.move rfl) rfl ?_; clear hA a; intro a hA
                  refine D.valg (dj := 68) hA rfl (by kernel_rfl) (by kernel_rfl) rfl (fun _ hM => R.loadW (k := 0) hM sz32 rfl rfl sg20.size) rfl ?_; clear hA a; intro a hA
                  refine D.callg (dj := 68) hA rfl (by kernel_rfl) rfl (R.callF Try.func22 rfl rfl rfl) rfl (num_v 0 (by omega) (by omega) _) ?_; clear hA a
                  rintro e w16 ⟨x23, rfl, sg24, hb⟩
                  replace hM := hM.callB hb; clear hb
                  refine ⟨.agg x23, rfl, hM, fun a hA => ?_⟩
                  refine D.callg (dj := 68) hA rfl (by kernel_rfl) rfl (R.callF Try.func23 rfl rfl rfl) rfl (cmp_v sg20 sg24 ((Lt.add ((Lt.int (by omega) (by omega)).mul (Lt.int (by omega) (by omega))) ((Lt.int (by omega) (by omega)).mul (Lt.int (by omega) (by omega))).neg).up (by decide)) ((Lt.int (by omega) (by omega)).up (by decide)) _) ?_; clear hA a
                  rintro e w17 ⟨rfl, hb⟩
                  replace hM := hM.callB hb; clear hb
                  refine ⟨.int .i64 (cmpI ((p * q) + (-(t * c)) - 0)), rfl, hM, fun a hA => ?_⟩
                  refine D.valgF (dj := 68) hA rfl (by kernel_rfl) rfl (fun _ => R.tt (R.geq rfl rfl) (cmpI_nn (by omega))) rfl ?_; clear hA a; intro a hA
                  refine D.valF hA rfl (fun _ => R.pickT rfl rfl) rfl ?_; clear hA a; intro a hA
                  refine D.valF hA rfl (fun _ => R.move rfl) rfl ?_; clear hA a; intro a hA
                  refine D.valg (dj := 74) hA rfl (by kernel_rfl) (by kernel_rfl) rfl (fun _ hM => R.loadW (k := 0) hM sz32 rfl rfl sg20.size) rfl ?_; clear hA a; intro a hA
                  refine D.valgF (dj := 74) hA rfl (by kernel_rfl) rfl (fun _ => R.move rfl) rfl ?_; clear hA a; intro a hA
                  refine D.callg (dj := 74) hA rfl (by kernel_rfl) rfl (R.callF Try.func22 rfl rfl rfl) rfl (num_v c (by omega) (by omega) _) ?_; clear hA a
                  rintro e w18 ⟨x25, rfl, sg26, hb⟩
                  replace hM := hM.callB hb; clear hb
                  refine ⟨.agg x25, rfl, hM, fun a hA => ?_⟩
                  refine D.callg (dj := 74) hA rfl (by kernel_rfl) rfl (R.callF Try.func23 rfl rfl rfl) rfl (cmp_v sg20 sg26 ((Lt.add ((Lt.int (by omega) (by omega)).mul (Lt.int (by omega) (by omega))) ((Lt.int (by omega) (by omega)).mul (Lt.int (by omega) (by omega))).neg).up (by decide)) ((Lt.int (by omega) (by omega)).up (by decide)) _) ?_; clear hA a
                  rintro e w19 ⟨rfl, hb⟩
                  replace hM := hM.callB hb; clear hb
                  refine ⟨.int .i64 (cmpI ((p * q) + (-(t * c)) - c)), rfl, hM, fun a hA => ?_⟩
                  refine D.valgF (dj := 74) hA rfl (by kernel_rfl) rfl (fun _ => R.tt (R.lss rfl rfl) (cmpI_ng (by omega))) rfl ?_; clear hA a; intro a hA
                  refine D.valF hA rfl (fun _ => R.pickT rfl rfl) rfl ?_; clear hA a; intro a hA
                  refine D.valF hA rfl (fun _ => R.assign rfl) rfl ?_; clear hA a; intro a hA
                  refine D.done ?_
                  replace hA : St 81 [(6, _)] a := hA.sub ((.cons rfl .nil))
                  refine Ends.ret1 Try.func10 Try.results10 hA rfl ?_
                  exact ⟨rfl, Mem.trans0 hbs hM.nilL⟩
                ·
                  refine D.alloc hA hM rfl info32 rfl rfl ?_; clear hA hM a; intro b27 w20 hb28 hM; refine ⟨(fun hM => hM) hM.tail, fun a hA => ?_⟩
                  replace hM : Mem _ _ [pt b27 #[.bool false, .int .i64 0, .int .i64 0, .int .i64 0, .int .i64 0, .int .i64 0, .int .i64 0, .int .i64 0, .int .i64 0, .int .i64 0] 32, pt b9 x7 32] _ := hM
                  refine D.call hA rfl (R.callF Try.func20 rfl rfl rfl) rfl (add_v sg8 sg18 (((Lt.int (by omega) (by omega)).mul (Lt.int (by omega) (by omega))).up (by decide)) (((Lt.int (by omega) (by omega)).mul (Lt.int (by omega) (by omega))).neg.up (by decide)) _) ?_; clear hA a
                  rintro e w21 ⟨x29, rfl, sg30, hb⟩
                  replace hM := hM.callB hb; clear hb
                  refine ⟨.agg x29, rfl, (hM.drop 0), fun a hA => ?_⟩
                  refine D.storeW (k := 0) hA hM rfl sz32 rfl rfl sg30.size sg30.one rfl rfl ?_; clear hM
                  intro w22 hM; refine ⟨fun _ hne => absurd rfl hne, ?_⟩
                  replace hM : Mem _ _ [pt b27 x29 32, pt b9 x7 32] _ := hM
                  refine D.done ?_
                  replace hA : St 81 [(2, _), (7, _), (11, _)] a := hA.sub ((.cons rfl (.cons rfl (.cons rfl .nil))))
                  refine Ends.seq ?_
                  refine Ends.drawn (Mem w nof [pt b27 x29 32, pt b9 x7 32]) (.cons (0, true) (.cons (1, true) (.cons (2, true) (.cons (3, true) (.cons (4, false) (.cons (5, false) (.cons (6, true) (.cons (7, true) (.cons (8, true) (.cons (9, true) (.cons (10, true) (.cons (11, false) (.cons (12, false) (.cons (13, true) (.cons (14, true) (.cons (15, true) .nil)))))))))))))))) 16 mixed (by kernel_rfl) (by kernel_rfl) (by kernel_rfl) hM.drew ?_
                  replace hM := hM.drew
                  refine D.valF hA rfl (fun _ => R.move rfl) rfl ?_; clear hA a; intro a hA
                  refine D.valF hA rfl (fun _ => R.tt (R.geq rfl rfl) (by omega)) rfl ?_; clear hA a; intro a hA
                  refine D.valF hA rfl (fun _ => R.move rfl) rfl ?_; clear hA a; intro a hA
                  refine D.valg (dj := 68) hA rfl (by kernel_rfl) (by kernel_rfl) rfl (fun _ hM => R.loadW (k := 0) hM sz32 rfl rfl sg30.size) rfl ?_; clear hA a; intro a hA
                  refine D.callg (dj := 68) hA rfl (by kernel_rfl) rfl (R.callF Try.func22 rfl rfl rfl) rfl (num_v 0 (by omega) (by omega) _) ?_; clear hA a
                  rintro e w23 ⟨x31, rfl, sg32, hb⟩
                  replace hM := hM.callB hb; clear hb
                  refine ⟨.agg x31, rfl, hM, fun a hA => ?_⟩
                  refine D.callg (dj := 68) hA rfl (by kernel_rfl) rfl (R.callF Try.func23 rfl rfl rfl) rfl (cmp_v sg30 sg32 ((Lt.add ((Lt.int (by omega) (by omega)).mul (Lt.int (by omega) (by omega))) ((Lt.int (by omega) (by omega)).mul (Lt.int (by omega) (by omega))).neg).up (by decide)) ((Lt.int (by omega) (by omega)).up (by decide)) _) ?_; clear hA a
                  rintro e w24 ⟨rfl, hb⟩
                  replace hM := hM.callB hb; clear hb
                  refine ⟨.int .i64 (cmpI ((p * q) + (-(t * c)) - 0)), rfl, hM, fun a hA => ?_⟩
                  refine D.valgF (dj := 68) hA rfl (by kernel_rfl) rfl (fun _ => R.tt (R.geq rfl rfl) (cmpI_nn (by omega))) rfl ?_; clear hA a; intro a hA
                  refine D.valF hA rfl (fun _ => R.pickT rfl rfl) rfl ?_; clear hA a; intro a hA
                  refine D.valF hA rfl (fun _ => R.move rfl) rfl ?_; clear hA a; intro a hA
                  refine D.valg (dj := 74) hA rfl (by kernel_rfl) (by kernel_rfl) rfl (fun _ hM => R.loadW (k := 0) hM sz32 rfl rfl sg30.size) rfl ?_; clear hA a; intro a hA
                  refine D.valgF (dj := 74) hA rfl (by kernel_rfl) rfl (fun _ => R.move rfl) rfl ?_; clear hA a; intro a hA
                  refine D.callg (dj := 74) hA rfl (by kernel_rfl) rfl (R.callF Try.func22 rfl rfl rfl) rfl (num_v c (by omega) (by omega) _) ?_; clear hA a
                  rintro e w25 ⟨x33, rfl, sg34, hb⟩
                  replace hM := hM.callB hb; clear hb
                  refine ⟨.agg x33, rfl, hM, fun a hA => ?_⟩
                  refine D.callg (dj := 74) hA rfl (by kernel_rfl) rfl (R.callF Try.func23 rfl rfl rfl) rfl (cmp_v sg30 sg34 ((Lt.add ((Lt.int (by omega) (by omega)).mul (Lt.int (by omega) (by omega))) ((Lt.int (by omega) (by omega)).mul (Lt.int (by omega) (by omega))).neg).up (by decide)) ((Lt.int (by omega) (by omega)).up (by decide)) _) ?_; clear hA a
                  rintro e w26 ⟨rfl, hb⟩
                  replace hM := hM.callB hb; clear hb
                  refine ⟨.int .i64 (cmpI ((p * q) + (-(t * c)) - c)), rfl, hM, fun a hA => ?_⟩
                  refine D.valgF (dj := 74) hA rfl (by kernel_rfl) rfl (fun _ => R.tt (R.lss rfl rfl) (cmpI_ng (by omega))) rfl ?_; clear hA a; intro a hA
                  refine D.valF hA rfl (fun _ => R.pickT rfl rfl) rfl ?_; clear hA a; intro a hA
                  refine D.valF hA rfl (fun _ => R.assign rfl) rfl ?_; clear hA a; intro a hA
                  refine D.done ?_
                  replace hA : St 81 [(6, _)] a := hA.sub ((.cons rfl .nil))
                  refine Ends.ret1 Try.func10 Try.results10 hA rfl ?_
                  exact ⟨rfl, Mem.trans0 hbs hM.nilL⟩
              ·
                refine D.alloc hA hM rfl info32 rfl rfl ?_; clear hA hM a; intro b35 w27 hb36 hM; refine ⟨(fun hM => hM) hM.tail, fun a hA => ?_⟩
                replace hM : Mem _ _ [pt b35 #[.bool false, .int .i64 0, .int .i64 0, .int .i64 0, .int .i64 0, .int .i64 0, .int .i64 0, .int .i64 0, .int .i64 0, .int .i64 0] 32, pt b9 x7 32] _ := hM
                refine D.call hA rfl (R.callF Try.func33 rfl rfl rfl) rfl (neg_v sg16 _) ?_; clear hA a
                rintro e w28 ⟨x37, rfl, sg38, hb⟩
                replace hM := hM.callB hb; clear hb
                refine ⟨.agg x37, rfl, (hM.drop 0), fun a hA => ?_⟩
                refine D.call hA rfl (R.callF Try.func20 rfl rfl rfl) rfl (add_v sg8 sg38 (((Lt.int (by omega) (by omega)).mul (Lt.int (by omega) (by omega))).up (by decide)) (((Lt.int (by omega) (by omega)).mul (Lt.int (by omega) (by omega))).neg.up (by decide)) _) ?_; clear hA a
                rintro e w29 ⟨x39, rfl, sg40, hb⟩
                replace hM := hM.callB hb; clear hb
                refine ⟨.agg x39, rfl, (hM.drop 0), fun a hA => ?_⟩
                refine D.storeW (k := 0) hA hM rfl sz32 rfl rfl sg40.size sg40.one rfl rfl ?_; clear hM
                intro w30 hM; refine ⟨fun _ hne => absurd rfl hne, ?_⟩
                replace hM : Mem _ _ [pt b35 x39 32, pt b9 x7 32] _ := hM
                refine D.done ?_
                replace hA : St 81 [(2, _), (7, _), (11, _)] a := hA.sub ((.cons rfl (.cons rfl (.cons rfl .nil))))
                refine Ends.seq ?_
                refine Ends.drawn (Mem w nof [pt b35 x39 32, pt b9 x7 32]) (.cons (0, true) (.cons (1, true) (.cons (2, true) (.cons (3, true) (.cons (4, false) (.cons (5, false) (.cons (6, true) (.cons (7, true) (.cons (8, true) (.cons (9, true) (.cons (10, true) (.cons (11, false) (.cons (12, false) (.cons (13, true) (.cons (14, true) (.cons (15, true) .nil)))))))))))))))) 16 mixed (by kernel_rfl) (by kernel_rfl) (by kernel_rfl) hM.drew ?_
                replace hM := hM.drew
                refine D.valF hA rfl (fun _ => R.move rfl) rfl ?_; clear hA a; intro a hA
                refine D.valF hA rfl (fun _ => R.tt (R.geq rfl rfl) (by omega)) rfl ?_; clear hA a; intro a hA
                refine D.valF hA rfl (fun _ => R.move rfl) rfl ?_; clear hA a; intro a hA
                refine D.valg (dj := 68) hA rfl (by kernel_rfl) (by kernel_rfl) rfl (fun _ hM => R.loadW (k := 0) hM sz32 rfl rfl sg40.size) rfl ?_; clear hA a; intro a hA
                refine D.callg (dj := 68) hA rfl (by kernel_rfl) rfl (R.callF Try.func22 rfl rfl rfl) rfl (num_v 0 (by omega) (by omega) _) ?_; clear hA a
                rintro e w31 ⟨x41, rfl, sg42, hb⟩
                replace hM := hM.callB hb; clear hb
                refine ⟨.agg x41, rfl, hM, fun a hA => ?_⟩
                refine D.callg (dj := 68) hA rfl (by kernel_rfl) rfl (R.callF Try.func23 rfl rfl rfl) rfl (cmp_v sg40 sg42 ((Lt.add ((Lt.int (by omega) (by omega)).mul (Lt.int (by omega) (by omega))) ((Lt.int (by omega) (by omega)).mul (Lt.int (by omega) (by omega))).neg).up (by decide)) ((Lt.int (by omega) (by omega)).up (by decide)) _) ?_; clear hA a
                rintro e w32 ⟨rfl, hb⟩
                replace hM := hM.callB hb; clear hb
                refine ⟨.int .i64 (cmpI ((p * q) + (-(t * c)) - 0)), rfl, hM, fun a hA => ?_⟩
                refine D.valgF (dj := 68) hA rfl (by kernel_rfl) rfl (fun _ => R.tt (R.geq rfl rfl) (cmpI_nn (by omega))) rfl ?_; clear hA a; intro a hA
                refine D.valF hA rfl (fun _ => R.pickT rfl rfl) rfl ?_; clear hA a; intro a hA
                refine D.valF hA rfl (fun _ => R.move rfl) rfl ?_; clear hA a; intro a hA
                refine D.valg (dj := 74) hA rfl (by kernel_rfl) (by kernel_rfl) rfl (fun _ hM => R.loadW (k := 0) hM sz32 rfl rfl sg40.size) rfl ?_; clear hA a; intro a hA
                refine D.valgF (dj := 74) hA rfl (by kernel_rfl) rfl (fun _ => R.move rfl) rfl ?_; clear hA a; intro a hA
                refine D.callg (dj := 74) hA rfl (by kernel_rfl) rfl (R.callF Try.func22 rfl rfl rfl) rfl (num_v c (by omega) (by omega) _) ?_; clear hA a
                rintro e w33 ⟨x43, rfl, sg44, hb⟩
                replace hM := hM.callB hb; clear hb
                refine ⟨.agg x43, rfl, hM, fun a hA => ?_⟩
                refine D.callg (dj := 74) hA rfl (by kernel_rfl) rfl (R.callF Try.func23 rfl rfl rfl) rfl (cmp_v sg40 sg44 ((Lt.add ((Lt.int (by omega) (by omega)).mul (Lt.int (by omega) (by omega))) ((Lt.int (by omega) (by omega)).mul (Lt.int (by omega) (by omega))).neg).up (by decide)) ((Lt.int (by omega) (by omega)).up (by decide)) _) ?_; clear hA a
                rintro e w34 ⟨rfl, hb⟩
                replace hM := hM.callB hb; clear hb
                refine ⟨.int .i64 (cmpI ((p * q) + (-(t * c)) - c)), rfl, hM, fun a hA => ?_⟩
                refine D.valgF (dj := 74) hA rfl (by kernel_rfl) rfl (fun _ => R.tt (R.lss rfl rfl) (cmpI_ng (by omega))) rfl ?_; clear hA a; intro a hA
                refine D.valF hA rfl (fun _ => R.pickT rfl rfl) rfl ?_; clear hA a; intro a hA
                refine D.valF hA rfl (fun _ => R.assign rfl) rfl ?_; clear hA a; intro a hA
                refine D.done ?_
                replace hA : St 81 [(6, _)] a := hA.sub ((.cons rfl .nil))
                refine Ends.ret1 Try.func10 Try.results10 hA rfl ?_
                exact ⟨rfl, Mem.trans0 hbs hM.nilL⟩
            ·
              refine D.alloc hA hM rfl info32 rfl rfl ?_; clear hA hM a; intro b45 w35 hb46 hM; refine ⟨(fun hM => hM) hM.tail, fun a hA => ?_⟩
              replace hM : Mem _ _ [pt b45 #[.bool false, .int .i64 0, .int .i64 0, .int .i64 0, .int .i64 0, .int .i64 0, .int .i64 0, .int .i64 0, .int .i64 0, .int .i64 0] 32, pt b9 x7 32] _ := hM
              refine D.call hA rfl (R.callF Try.func21 rfl rfl rfl) rfl (mul_v sg12 sg14 ((Lt.int (by omega) (by omega)).up (by decide)) ((Lt.int (by omega) (by omega)).up (by decide)) _) ?_; clear hA a
              rintro e w36 ⟨x47, rfl, sg48, hb⟩
              replace hM := hM.callB hb; clear hb
              refine ⟨.agg x47, rfl, (hM.drop 0), fun a hA => ?_⟩
              refine D.call hA rfl (R.callF Try.func33 rfl rfl rfl) rfl (neg_v sg48 _) ?_; clear hA a
              rintro e w37 ⟨x49, rfl, sg50, hb⟩
              replace hM := hM.callB hb; clear hb
              refine ⟨.agg x49, rfl, (hM.drop 0), fun a hA => ?_⟩
              refine D.call hA rfl (R.callF Try.func20 rfl rfl rfl) rfl (add_v sg8 sg50 (((Lt.int (by omega) (by omega)).mul (Lt.int (by omega) (by omega))).up (by decide)) (((Lt.int (by omega) (by omega)).mul (Lt.int (by omega) (by omega))).neg.up (by decide)) _) ?_; clear hA a
              rintro e w38 ⟨x51, rfl, sg52, hb⟩
              replace hM := hM.callB hb; clear hb
              refine ⟨.agg x51, rfl, (hM.drop 0), fun a hA => ?_⟩
              refine D.storeW (k := 0) hA hM rfl sz32 rfl rfl sg52.size sg52.one rfl rfl ?_; clear hM
              intro w39 hM; refine ⟨fun _ hne => absurd rfl hne, ?_⟩
              replace hM : Mem _ _ [pt b45 x51 32, pt b9 x7 32] _ := hM
              refine D.done ?_
              replace hA : St 81 [(2, _), (7, _), (11, _)] a := hA.sub ((.cons rfl (.cons rfl (.cons rfl .nil))))
              refine Ends.seq ?_
              refine Ends.drawn (Mem w nof [pt b45 x51 32, pt b9 x7 32]) (.cons (0, true) (.cons (1, true) (.cons (2, true) (.cons (3, true) (.cons (4, false) (.cons (5, false) (.cons (6, true) (.cons (7, true) (.cons (8, true) (.cons (9, true) (.cons (10, true) (.cons (11, false) (.cons (12, false) (.cons (13, true) (.cons (14, true) (.cons (15, true) .nil)))))))))))))))) 16 mixed (by kernel_rfl) (by kernel_rfl) (by kernel_rfl) hM.drew ?_
              replace hM := hM.drew
              refine D.valF hA rfl (fun _ => R.move rfl) rfl ?_; clear hA a; intro a hA
              refine D.valF hA rfl (fun _ => R.tt (R.geq rfl rfl) (by omega)) rfl ?_; clear hA a; intro a hA
              refine D.valF hA rfl (fun _ => R.move rfl) rfl ?_; clear hA a; intro a hA
              refine D.valg (dj := 68) hA rfl (by kernel_rfl) (by kernel_rfl) rfl (fun _ hM => R.loadW (k := 0) hM sz32 rfl rfl sg52.size) rfl ?_; clear hA a; intro a hA
              refine D.callg (dj := 68) hA rfl (by kernel_rfl) rfl (R.callF Try.func22 rfl rfl rfl) rfl (num_v 0 (by omega) (by omega) _) ?_; clear hA a
              rintro e w40 ⟨x53, rfl, sg54, hb⟩
              replace hM := hM.callB hb; clear hb
              refine ⟨.agg x53, rfl, hM, fun a hA => ?_⟩
              refine D.callg (dj := 68) hA rfl (by kernel_rfl) rfl (R.callF Try.func23 rfl rfl rfl) rfl (cmp_v sg52 sg54 ((Lt.add ((Lt.int (by omega) (by omega)).mul (Lt.int (by omega) (by omega))) ((Lt.int (by omega) (by omega)).mul (Lt.int (by omega) (by omega))).neg).up (by decide)) ((Lt.int (by omega) (by omega)).up (by decide)) _) ?_; clear hA a
              rintro e w41 ⟨rfl, hb⟩
              replace hM := hM.callB hb; clear hb
              refine ⟨.int .i64 (cmpI ((p * q) + (-(t * c)) - 0)), rfl, hM, fun a hA => ?_⟩
              refine D.valgF (dj := 68) hA rfl (by kernel_rfl) rfl (fun _ => R.tt (R.geq rfl rfl) (cmpI_nn (by omega))) rfl ?_; clear hA a; intro a hA
              refine D.valF hA rfl (fun _ => R.pickT rfl rfl) rfl ?_; clear hA a; intro a hA
              refine D.valF hA rfl (fun _ => R.move rfl) rfl ?_; clear hA a; intro a hA
              refine D.valg (dj := 74) hA rfl (by kernel_rfl) (by kernel_rfl) rfl (fun _ hM => R.loadW (k := 0) hM sz32 rfl rfl sg52.size) rfl ?_; clear hA a; intro a hA
              refine D.valgF (dj := 74) hA rfl (by kernel_rfl) rfl (fun _ => R.move rfl) rfl ?_; clear hA a; intro a hA
              refine D.callg (dj := 74) hA rfl (by kernel_rfl) rfl (R.callF Try.func22 rfl rfl rfl) rfl (num_v c (by omega) (by omega) _) ?_; clear hA a
              rintro e w42 ⟨x55, rfl, sg56, hb⟩
              replace hM := hM.callB hb; clear hb
              refine ⟨.agg x55, rfl, hM, fun a hA => ?_⟩
              refine D.callg (dj := 74) hA rfl (by kernel_rfl) rfl (R.callF Try.func23 rfl rfl rfl) rfl (cmp_v sg52 sg56 ((Lt.add ((Lt.int (by omega) (by omega)).mul (Lt.int (by omega) (by omega))) ((Lt.int (by omega) (by omega)).mul (Lt.int (by omega) (by omega))).neg).up (by decide)) ((Lt.int (by omega) (by omega)).up (by decide)) _) ?_; clear hA a
              rintro e w43 ⟨rfl, hb⟩
              replace hM := hM.callB hb; clear hb
              refine ⟨.int .i64 (cmpI ((p * q) + (-(t * c)) - c)), rfl, hM, fun a hA => ?_⟩
              refine D.valgF (dj := 74) hA rfl (by kernel_rfl) rfl (fun _ => R.tt (R.lss rfl rfl) (cmpI_ng (by omega))) rfl ?_; clear hA a; intro a hA
              refine D.valF hA rfl (fun _ => R.pickT rfl rfl) rfl ?_; clear hA a; intro a hA
              refine D.valF hA rfl (fun _ => R.assign rfl) rfl ?_; clear hA a; intro a hA
              refine D.done ?_
              replace hA : St 81 [(6, _)] a := hA.sub ((.cons rfl .nil))
              refine Ends.ret1 Try.func10 Try.results10 hA rfl ?_
              exact ⟨rfl, Mem.trans0 hbs hM.nilL⟩
          ·
            refine D.alloc hA hM rfl info32 rfl rfl ?_; clear hA hM a; intro b57 w44 hb58 hM; refine ⟨(fun hM => hM) hM.tail, fun a hA => ?_⟩
            replace hM : Mem _ _ [pt b57 #[.bool false, .int .i64 0, .int .i64 0, .int .i64 0, .int .i64 0, .int .i64 0, .int .i64 0, .int .i64 0, .int .i64 0, .int .i64 0] 32, pt b9 x7 32] _ := hM
            refine D.call hA rfl (R.callF Try.func22 rfl rfl rfl) rfl (num_v c (by omega) (by omega) _) ?_; clear hA a
            rintro e w45 ⟨x59, rfl, sg60, hb⟩
            replace hM := hM.callB hb; clear hb
            refine ⟨.agg x59, rfl, (hM.drop 0), fun a hA => ?_⟩
            refine D.call hA rfl (R.callF Try.func21 rfl rfl rfl) rfl (mul_v sg12 sg60 ((Lt.int (by omega) (by omega)).up (by decide)) ((Lt.int (by omega) (by omega)).up (by decide)) _) ?_; clear hA a
            rintro e w46 ⟨x61, rfl, sg62, hb⟩
            replace hM := hM.callB hb; clear hb
            refine ⟨.agg x61, rfl, (hM.drop 0), fun a hA => ?_⟩
            refine D.call hA rfl (R.callF Try.func33 rfl rfl rfl) rfl (neg_v sg62 _) ?_; clear hA a
            rintro e w47 ⟨x63, rfl, sg64, hb⟩
            replace hM := hM.callB hb; clear hb
            refine ⟨.agg x63, rfl, (hM.drop 0), fun a hA => ?_⟩
            refine D.call hA rfl (R.callF Try.func20 rfl rfl rfl) rfl (add_v sg8 sg64 (((Lt.int (by omega) (by omega)).mul (Lt.int (by omega) (by omega))).up (by decide)) (((Lt.int (by omega) (by omega)).mul (Lt.int (by omega) (by omega))).neg.up (by decide)) _) ?_; clear hA a
            rintro e w48 ⟨x65, rfl, sg66, hb⟩
            replace hM := hM.callB hb; clear hb
            refine ⟨.agg x65, rfl, (hM.drop 0), fun a hA => ?_⟩
            refine D.storeW (k := 0) hA hM rfl sz32 rfl rfl sg66.size sg66.one rfl rfl ?_; clear hM
            intro w49 hM; refine ⟨fun _ hne => absurd rfl hne, ?_⟩
            replace hM : Mem _ _ [pt b57 x65 32, pt b9 x7 32] _ := hM
            refine D.done ?_
            replace hA : St 81 [(2, _), (7, _), (11, _)] a := hA.sub ((.cons rfl (.cons rfl (.cons rfl .nil))))
            refine Ends.seq ?_
            refine Ends.drawn (Mem w nof [pt b57 x65 32, pt b9 x7 32]) (.cons (0, true) (.cons (1, true) (.cons (2, true) (.cons (3, true) (.cons (4, false) (.cons (5, false) (.cons (6, true) (.cons (7, true) (.cons (8, true) (.cons (9, true) (.cons (10, true) (.cons (11, false) (.cons (12, false) (.cons (13, true) (.cons (14, true) (.cons (15, true) .nil)))))))))))))))) 16 mixed (by kernel_rfl) (by kernel_rfl) (by kernel_rfl) hM.drew ?_
            replace hM := hM.drew
            refine D.valF hA rfl (fun _ => R.move rfl) rfl ?_; clear hA a; intro a hA
            refine D.valF hA rfl (fun _ => R.tt (R.geq rfl rfl) (by omega)) rfl ?_; clear hA a; intro a hA
            refine D.valF hA rfl (fun _ => R.move rfl) rfl ?_; clear hA a; intro a hA
            refine D.valg (dj := 68) hA rfl (by kernel_rfl) (by kernel_rfl) rfl (fun _ hM => R.loadW (k := 0) hM sz32 rfl rfl sg66.size) rfl ?_; clear hA a; intro a hA
            refine D.callg (dj := 68) hA rfl (by kernel_rfl) rfl (R.callF Try.func22 rfl rfl rfl) rfl (num_v 0 (by omega) (by omega) _) ?_; clear hA a
            rintro e w50 ⟨x67, rfl, sg68, hb⟩
            replace hM := hM.callB hb; clear hb
            refine ⟨.agg x67, rfl, hM, fun a hA => ?_⟩
            refine D.callg (dj := 68) hA rfl (by kernel_rfl) rfl (R.callF Try.func23 rfl rfl rfl) rfl (cmp_v sg66 sg68 ((Lt.add ((Lt.int (by omega) (by omega)).mul (Lt.int (by omega) (by omega))) ((Lt.int (by omega) (by omega)).mul (Lt.int (by omega) (by omega))).neg).up (by decide)) ((Lt.int (by omega) (by omega)).up (by decide)) _) ?_; clear hA a
            rintro e w51 ⟨rfl, hb⟩
            replace hM := hM.callB hb; clear hb
            refine ⟨.int .i64 (cmpI ((p * q) + (-(t * c)) - 0)), rfl, hM, fun a hA => ?_⟩
            refine D.valgF (dj := 68) hA rfl (by kernel_rfl) rfl (fun _ => R.tt (R.geq rfl rfl) (cmpI_nn (by omega))) rfl ?_; clear hA a; intro a hA
            refine D.valF hA rfl (fun _ => R.pickT rfl rfl) rfl ?_; clear hA a; intro a hA
            refine D.valF hA rfl (fun _ => R.move rfl) rfl ?_; clear hA a; intro a hA
            refine D.valg (dj := 74) hA rfl (by kernel_rfl) (by kernel_rfl) rfl (fun _ hM => R.loadW (k := 0) hM sz32 rfl rfl sg66.size) rfl ?_; clear hA a; intro a hA
            refine D.valgF (dj := 74) hA rfl (by kernel_rfl) rfl (fun _ => R.move rfl) rfl ?_; clear hA a; intro a hA
            refine D.callg (dj := 74) hA rfl (by kernel_rfl) rfl (R.callF Try.func22 rfl rfl rfl) rfl (num_v c (by omega) (by omega) _) ?_; clear hA a
            rintro e w52 ⟨x69, rfl, sg70, hb⟩
            replace hM := hM.callB hb; clear hb
            refine ⟨.agg x69, rfl, hM, fun a hA => ?_⟩
            refine D.callg (dj := 74) hA rfl (by kernel_rfl) rfl (R.callF Try.func23 rfl rfl rfl) rfl (cmp_v sg66 sg70 ((Lt.add ((Lt.int (by omega) (by omega)).mul (Lt.int (by omega) (by omega))) ((Lt.int (by omega) (by omega)).mul (Lt.int (by omega) (by omega))).neg).up (by decide)) ((Lt.int (by omega) (by omega)).up (by decide)) _) ?_; clear hA a
            rintro e w53 ⟨rfl, hb⟩
            replace hM := hM.callB hb; clear hb
            refine ⟨.int .i64 (cmpI ((p * q) + (-(t * c)) - c)), rfl, hM, fun a hA => ?_⟩
            refine D.valgF (dj := 74) hA rfl (by kernel_rfl) rfl (fun _ => R.tt (R.lss rfl rfl) (cmpI_ng (by omega))) rfl ?_; clear hA a; intro a hA
            refine D.valF hA rfl (fun _ => R.pickT rfl rfl) rfl ?_; clear hA a; intro a hA
            refine D.valF hA rfl (fun _ => R.assign rfl) rfl ?_; clear hA a; intro a hA
            refine D.done ?_
            replace hA : St 81 [(6, _)] a := hA.sub ((.cons rfl .nil))
            refine Ends.ret1 Try.func10 Try.results10 hA rfl ?_
            exact ⟨rfl, Mem.trans0 hbs hM.nilL⟩
        ·
          refine D.alloc hA hM rfl info32 rfl rfl ?_; clear hA hM a; intro b71 w54 hb72 hM; refine ⟨(fun hM => hM) hM.tail, fun a hA => ?_⟩
          replace hM : Mem _ _ [pt b71 #[.bool false, .int .i64 0, .int .i64 0, .int .i64 0, .int .i64 0, .int .i64 0, .int .i64 0, .int .i64 0, .int .i64 0, .int .i64 0] 32, pt b9 x7 32] _ := hM
          refine D.call hA rfl (R.callF Try.func22 rfl rfl rfl) rfl (num_v t (by omega) (by omega) _) ?_; clear hA a
          rintro e w55 ⟨x73, rfl, sg74, hb⟩
          replace hM := hM.callB hb; clear hb
          refine ⟨.agg x73, rfl, (hM.drop 0), fun a hA => ?_⟩
          refine D.call hA rfl (R.callF Try.func22 rfl rfl rfl) rfl (num_v c (by omega) (by omega) _) ?_; clear hA a
          rintro e w56 ⟨x75, rfl, sg76, hb⟩
          replace hM := hM.callB hb; clear hb
          refine ⟨.agg x75, rfl, (hM.drop 0), fun a hA => ?_⟩
          refine D.call hA rfl (R.callF Try.func21 rfl rfl rfl) rfl (mul_v sg74 sg76 ((Lt.int (by omega) (by omega)).up (by decide)) ((Lt.int (by omega) (by omega)).up (by decide)) _) ?_; clear hA a
          rintro e w57 ⟨x77, rfl, sg78, hb⟩
          replace hM := hM.callB hb; clear hb
          refine ⟨.agg x77, rfl, (hM.drop 0), fun a hA => ?_⟩
          refine D.call hA rfl (R.callF Try.func33 rfl rfl rfl) rfl (neg_v sg78 _) ?_; clear hA a
          rintro e w58 ⟨x79, rfl, sg80, hb⟩
          replace hM := hM.callB hb; clear hb
          refine ⟨.agg x79, rfl, (hM.drop 0), fun a hA => ?_⟩
          refine D.call hA rfl (R.callF Try.func20 rfl rfl rfl) rfl (add_v sg8 sg80 (((Lt.int (by omega) (by omega)).mul (Lt.int (by omega) (by omega))).up (by decide)) (((Lt.int (by omega) (by omega)).mul (Lt.int (by omega) (by omega))).neg.up (by decide)) _) ?_; clear hA a
          rintro e w59 ⟨x81, rfl, sg82, hb⟩
          replace hM := hM.callB hb; clear hb
          refine ⟨.agg x81, rfl, (hM.drop 0), fun a hA => ?_⟩
          refine D.storeW (k := 0) hA hM rfl sz32 rfl rfl sg82.size sg82.one rfl rfl ?_; clear hM
          intro w60 hM; refine ⟨fun _ hne => absurd rfl hne, ?_⟩
          replace hM : Mem _ _ [pt b71 x81 32, pt b9 x7 32] _ := hM
          refine D.done ?_
          replace hA : St 81 [(2, _), (7, _), (11, _)] a := hA.sub ((.cons rfl (.cons rfl (.cons rfl .nil))))
          refine Ends.seq ?_
          refine Ends.drawn (Mem w nof [pt b71 x81 32, pt b9 x7 32]) (.cons (0, true) (.cons (1, true) (.cons (2, true) (.cons (3, true) (.cons (4, false) (.cons (5, false) (.cons (6, true) (.cons (7, true) (.cons (8, true) (.cons (9, true) (.cons (10, true) (.cons (11, false) (.cons (12, false) (.cons (13, true) (.cons (14, true) (.cons (15, true) .nil)))))))))))))))) 16 mixed (by kernel_rfl) (by kernel_rfl) (by kernel_rfl) hM.drew ?_
          replace hM := hM.drew
          refine D.valF hA rfl (fun _ => R.move rfl) rfl ?_; clear hA a; intro a hA
          refine D.valF hA rfl (fun _ => R.tt (R.geq rfl rfl) (by omega)) rfl ?_; clear hA a; intro a hA
          refine D.valF hA rfl (fun _ => R.move rfl) rfl ?_; clear hA a; intro a hA
          refine D.valg (dj := 68) hA rfl (by kernel_rfl) (by kernel_rfl) rfl (fun _ hM => R.loadW (k := 0) hM sz32 rfl rfl sg82.size) rfl ?_; clear hA a; intro a hA
          refine D.callg (dj := 68) hA rfl (by kernel_rfl) rfl (R.callF Try.func22 rfl rfl rfl) rfl (num_v 0 (by omega) (by omega) _) ?_; clear hA a
          rintro e w61 ⟨x83, rfl, sg84, hb⟩
          replace hM := hM.callB hb; clear hb
          refine ⟨.agg x83, rfl, hM, fun a hA => ?_⟩
          refine D.callg (dj := 68) hA rfl (by kernel_rfl) rfl (R.callF Try.func23 rfl rfl rfl) rfl (cmp_v sg82 sg84 ((Lt.add ((Lt.int (by omega) (by omega)).mul (Lt.int (by omega) (by omega))) ((Lt.int (by omega) (by omega)).mul (Lt.int (by omega) (by omega))).neg).up (by decide)) ((Lt.int (by omega) (by omega)).up (by decide)) _) ?_; clear hA a
          rintro e w62 ⟨rfl, hb⟩
          replace hM := hM.callB hb; clear hb
          refine ⟨.int .i64 (cmpI ((p * q) + (-(t * c)) - 0)), rfl, hM, fun a hA => ?_⟩
          refine D.valgF (dj := 68) hA rfl (by kernel_rfl) rfl (fun _ => R.tt (R.geq rfl rfl) (cmpI_nn (by omega))) rfl ?_; clear hA a; intro a hA
          refine D.valF hA rfl (fun _ => R.pickT rfl rfl) rfl ?_; clear hA a; intro a hA
          refine D.valF hA rfl (fun _ => R.move rfl) rfl ?_; clear hA a; intro a hA
          refine D.valg (dj := 74) hA rfl (by kernel_rfl) (by kernel_rfl) rfl (fun _ hM => R.loadW (k := 0) hM sz32 rfl rfl sg82.size) rfl ?_; clear hA a; intro a hA
          refine D.valgF (dj := 74) hA rfl (by kernel_rfl) rfl (fun _ => R.move rfl) rfl ?_; clear hA a; intro a hA
          refine D.callg (dj := 74) hA rfl (by kernel_rfl) rfl (R.callF Try.func22 rfl rfl rfl) rfl (num_v c (by omega) (by omega) _) ?_; clear hA a
          rintro e w63 ⟨x85, rfl, sg86, hb⟩
          replace hM := hM.callB hb; clear hb
          refine ⟨.agg x85, rfl, hM, fun a hA => ?_⟩
          refine D.callg (dj := 74) hA rfl (by kernel_rfl) rfl (R.callF Try.func23 rfl rfl rfl) rfl (cmp_v sg82 sg86 ((Lt.add ((Lt.int (by omega) (by omega)).mul (Lt.int (by omega) (by omega))) ((Lt.int (by omega) (by omega)).mul (Lt.int (by omega) (by omega))).neg).up (by decide)) ((Lt.int (by omega) (by omega)).up (by decide)) _) ?_; clear hA a
          rintro e w64 ⟨rfl, hb⟩
          replace hM := hM.callB hb; clear hb
          refine ⟨.int .i64 (cmpI ((p * q) + (-(t * c)) - c)), rfl, hM, fun a hA => ?_⟩
          refine D.valgF (dj := 74) hA rfl (by kernel_rfl) rfl (fun _ => R.tt (R.lss rfl rfl) (cmpI_ng (by omega))) rfl ?_; clear hA a; intro a hA
          refine D.valF hA rfl (fun _ => R.pickT rfl rfl) rfl ?_; clear hA a; intro a hA
          refine D.valF hA rfl (fun _ => R.assign rfl) rfl ?_; clear hA a; intro a hA
          refine D.done ?_
          replace hA : St 81 [(6, _)] a := hA.sub ((.cons rfl .nil))
          refine Ends.ret1 Try.func10 Try.results10 hA rfl ?_
          exact ⟨rfl, Mem.trans0 hbs hM.nilL⟩
      ·
        obtain ⟨e1, e2⟩ := part_no (p := p) (q := q) (c := c) (.inr (by omega))
        rw [e1, e2] at hA
        have hbig : 9223372036854775808 * c ≤ p * q := by have h9 := Int.mul_le_of_le_ediv (a := 9223372036854775808) (b := p * q) (c := c) (by omega) (by omega); omega
        refine Ends.region ?_
        refine S.val hA (R.move rfl) rfl ?_; clear hA a; intro a hA
        refine S.call hA (R.callF Try.func22 rfl rfl rfl) rfl (num_v p (by omega) (by omega) _) ?_; clear hA a
        rintro e w65 ⟨x87, rfl, sg88, hb⟩
        replace hM := hM.callB hb; clear hb
        refine ⟨.agg x87, rfl, fun a hA => ?_⟩
        refine S.val hA (R.move rfl) rfl ?_; clear hA a; intro a hA
        refine S.call hA (R.callF Try.func22 rfl rfl rfl) rfl (num_v q (by omega) (by omega) _) ?_; clear hA a
        rintro e w66 ⟨x89, rfl, sg90, hb⟩
        replace hM := hM.callB hb; clear hb
        refine ⟨.agg x89, rfl, fun a hA => ?_⟩
        refine S.call hA (R.callF Try.func21 rfl rfl rfl) rfl (mul_v sg88 sg90 ((Lt.int (by omega) (by omega)).up (by decide)) ((Lt.int (by omega) (by omega)).up (by decide)) _) ?_; clear hA a
        rintro e w67 ⟨x91, rfl, sg92, hb⟩
        replace hM := hM.callB hb; clear hb
        refine ⟨.agg x91, rfl, fun a hA => ?_⟩
        refine S.alloc hA hM info32 rfl rfl ?_; clear hA hM a; intro b93 w68 hb94 hM a hA
        replace hM : Mem _ _ [pt b93 #[.bool false, .int .i64 0, .int .i64 0, .int .i64 0, .int .i64 0, .int .i64 0, .int .i64 0, .int .i64 0, .int .i64 0, .int .i64 0] 32] _ := hM
        refine S.storeW (k := 0) hA hM sz32 rfl rfl sg92.size sg92.one rfl rfl ?_; clear hM
        intro w69 hM
        replace hM : Mem _ _ [pt b93 x91 32] _ := hM
        refine S.done ?_
        replace hA : St 81 [(2, _), (7, _), (8, _), (9, _)] a := hA.sub ((.cons rfl (.cons rfl (.cons rfl (.cons rfl .nil)))))
        refine Ends.seq ?_
        refine Ends.seq ?_
        refine Ends.region ?_
        refine S.val hA (R.move rfl) rfl ?_; clear hA a; intro a hA
        refine S.val hA (R.not rfl) rfl ?_; clear hA a; intro a hA
        refine S.done ?_
        replace hA : St 81 [(2, _), (7, _), (9, _), (43, _)] a := hA.sub ((.cons rfl (.cons rfl (.cons rfl (.cons rfl .nil)))))
        refine Ends.condT hA rfl ?_
        refine Ends.seq ?_
        refine Ends.region ?_
        refine S.call hA (R.callF Try.func22 rfl rfl rfl) rfl (num_v 4611686018427387904 (by omega) (by omega) _) ?_; clear hA a
        rintro e w70 ⟨x95, rfl, sg96, hb⟩
        replace hM := hM.callB hb; clear hb
        refine ⟨.agg x95, rfl, fun a hA => ?_⟩
        refine S.val hA (R.move rfl) rfl ?_; clear hA a; intro a hA
        refine S.call hA (R.callF Try.func22 rfl rfl rfl) rfl (num_v c (by omega) (by omega) _) ?_; clear hA a
        rintro e w71 ⟨x97, rfl, sg98, hb⟩
        replace hM := hM.callB hb; clear hb
        refine ⟨.agg x97, rfl, fun a hA => ?_⟩
        refine S.call hA (R.callF Try.func21 rfl rfl rfl) rfl (mul_v sg96 sg98 ((Lt.int (by omega) (by omega)).up (by decide)) ((Lt.int (by omega) (by omega)).up (by decide)) _) ?_; clear hA a
        rintro e w72 ⟨x99, rfl, sg100, hb⟩
        replace hM := hM.callB hb; clear hb
        refine ⟨.agg x99, rfl, fun a hA => ?_⟩
        refine S.alloc hA hM info32 rfl rfl ?_; clear hA hM a; intro b101 w73 hb102 hM a hA
        replace hM : Mem _ _ [pt b101 #[.bool false, .int .i64 0, .int .i64 0, .int .i64 0, .int .i64 0, .int .i64 0, .int .i64 0, .int .i64 0, .int .i64 0, .int .i64 0] 32, pt b93 x91 32] _ := hM
        refine S.storeW (k := 0) hA hM sz32 rfl rfl sg100.size sg100.one rfl rfl ?_; clear hM
        intro w74 hM
        replace hM : Mem _ _ [pt b101 x99 32, pt b93 x91 32] _ := hM
        refine S.done ?_
        replace hA : St 81 [(2, _), (7, _), (9, _), (10, _)] a := hA.sub ((.cons rfl (.cons rfl (.cons rfl (.cons rfl .nil)))))
        refine Ends.seq ?_
        refine Ends.drawn (Mem w nof [pt b101 x99 32, pt b93 x91 32]) (.cons (0, true) (.cons (1, true) (.cons (2, true) (.cons (3, true) (.cons (4, true) (.cons (5, true) (.cons (6, false) (.cons (7, false) (.cons (8, true) (.cons (9, true) (.cons (10, true) .nil))))))))))) 11 mixed (by kernel_rfl) (by kernel_rfl) (by kernel_rfl) hM.drew ?_
        replace hM := hM.drew
        refine D.valF hA rfl (fun _ => R.move rfl) rfl ?_; clear hA a; intro a hA
        refine D.valF hA rfl (fun _ => R.tt (R.eql rfl rfl) (by first | decide | simp | omega)) rfl ?_; clear hA a; intro a hA
        refine D.valF hA rfl (fun _ => R.move rfl) rfl ?_; clear hA a; intro a hA
        refine D.valg (dj := 50) hA rfl (by kernel_rfl) (by kernel_rfl) rfl (fun _ hM => R.loadW (k := 1) hM sz32 rfl rfl sg92.size) rfl ?_; clear hA a; intro a hA
        refine D.valg (dj := 50) hA rfl (by kernel_rfl) (by kernel_rfl) rfl (fun _ hM => R.loadW (k := 0) hM sz32 rfl rfl sg100.size) rfl ?_; clear hA a; intro a hA
        refine D.valg (dj := 50) hA rfl (by kernel_rfl) (by kernel_rfl) rfl (fun _ hM => R.loadW (k := 0) hM sz32 rfl rfl sg100.size) rfl ?_; clear hA a; intro a hA
        refine D.callg (dj := 50) hA rfl (by kernel_rfl) rfl (R.callF Try.func20 rfl rfl rfl) rfl (add_v sg100 sg100 (((Lt.int (by omega) (by omega)).mul (Lt.int (by omega) (by omega))).up (by decide)) (((Lt.int (by omega) (by omega)).mul (Lt.int (by omega) (by omega))).up (by decide)) _) ?_; clear hA a
        rintro e w75 ⟨x103, rfl, sg104, hb⟩
        replace hM := hM.callB hb; clear hb
        refine ⟨.agg x103, rfl, hM, fun a hA => ?_⟩
        refine D.callg (dj := 50) hA rfl (by kernel_rfl) rfl (R.callF Try.func23 rfl rfl rfl) rfl (cmp_v sg92 sg104 (((Lt.int (by omega) (by omega)).mul (Lt.int (by omega) (by omega))).up (by decide)) ((Lt.add ((Lt.int (by omega) (by omega)).mul (Lt.int (by omega) (by omega))) ((Lt.int (by omega) (by omega)).mul (Lt.int (by omega) (by omega)))).up (by decide)) _) ?_; clear hA a
        rintro e w76 ⟨rfl, hb⟩
        replace hM := hM.callB hb; clear hb
        refine ⟨.int .i64 (cmpI (p * q - ((4611686018427387904 * c) + (4611686018427387904 * c)))), rfl, hM, fun a hA => ?_⟩
        refine D.valgF (dj := 50) hA rfl (by kernel_rfl) rfl (fun _ => R.tt (R.geq rfl rfl) (cmpI_nn (by omega))) rfl ?_; clear hA a; intro a hA
        refine D.valF hA rfl (fun _ => R.pickT rfl rfl) rfl ?_; clear hA a; intro a hA
        refine D.valF hA rfl (fun _ => R.assign rfl) rfl ?_; clear hA a; intro a hA
        refine D.done ?_
        replace hA : St 81 [(2, _), (6, _), (7, _), (9, _)] a := hA.sub ((.cons rfl (.cons rfl (.cons rfl (.cons rfl .nil)))))
        refine Ends.ret1 Try.func10 Try.results10 hA rfl ?_
        exact ⟨rfl, Mem.trans0 hbs hM.nilL⟩
  ·
    refine Ends.region ?_
    refine S.val hA (R.move rfl) rfl ?_; clear hA a; intro a hA
    refine S.val hA (R.lss rfl rfl) rfl ?_; clear hA a; intro a hA
    refine S.val hA (R.move rfl) rfl ?_; clear hA a; intro a hA
    refine hA.split (d := 23) rfl ?_ ?_
    · clear hA; intro hg105 hA
      refine S.no (dj := 23) hA (by kernel_rfl) rfl rfl rfl ?_; clear hA a; intro a hA
      refine S.no (dj := 23) hA (by kernel_rfl) rfl rfl rfl ?_; clear hA a; intro a hA
      refine S.val hA (R.pickT rfl rfl) rfl ?_; clear hA a; intro a hA
      refine S.val hA (R.move rfl) rfl ?_; clear hA a; intro a hA
      refine S.no (dj := 27) hA (by kernel_rfl) rfl rfl rfl ?_; clear hA a; intro a hA
      refine S.no (dj := 27) hA (by kernel_rfl) rfl rfl rfl ?_; clear hA a; intro a hA
      refine S.val hA (R.pickT rfl rfl) rfl ?_; clear hA a; intro a hA
      refine S.done ?_
      replace hA : St 81 [(0, _), (1, _), (2, _), (7, _), (8, _), (30, _)] a := hA.sub ((.cons rfl (.cons rfl (.cons rfl (.cons rfl (.cons rfl (.cons rfl .nil)))))))
      exact hJ _ _ ⟨hA.sub (.cons rfl (.cons rfl (.cons rfl (.cons rfl (.cons rfl (.cons (by first | rfl | exact congrArg (fun b => some (Value.bool b)) (by first | exact decide_eq_decide.2 (by omega) | exact or_bool (by omega) | exact and_bool (by omega) | (simp; done) | (simp [hg105]; done) | (have h80 := hg105; (try simp at h80); simp [h80]; done) | exact (decide_eq_false (fun h9 => hg105 h9.1)).symm)) .nil)))))), hM⟩
    · clear hA; intro hg105 hA
      refine S.valg (dj := 23) hA (by kernel_rfl) rfl (R.move rfl) rfl ?_; clear hA a; intro a hA
      refine S.valg (dj := 23) hA (by kernel_rfl) rfl (R.lss rfl rfl) rfl ?_; clear hA a; intro a hA
      refine S.val hA (R.pickF rfl rfl) rfl ?_; clear hA a; intro a hA
      refine S.val hA (R.move rfl) rfl ?_; clear hA a; intro a hA
      refine hA.split (d := 27) rfl ?_ ?_
      · clear hA; intro hg106 hA
        refine S.no (dj := 27) hA (by kernel_rfl) rfl rfl rfl ?_; clear hA a; intro a hA
        refine S.no (dj := 27) hA (by kernel_rfl) rfl rfl rfl ?_; clear hA a; intro a hA
        refine S.val hA (R.pickT rfl rfl) rfl ?_; clear hA a; intro a hA
        refine S.done ?_
        replace hA : St 81 [(0, _), (1, _), (2, _), (7, _), (8, _), (30, _)] a := hA.sub ((.cons rfl (.cons rfl (.cons rfl (.cons rfl (.cons rfl (.cons rfl .nil)))))))
        exact hJ _ _ ⟨hA.sub (.cons rfl (.cons rfl (.cons rfl (.cons rfl (.cons rfl (.cons (by first | rfl | exact congrArg (fun b => some (Value.bool b)) (by first | exact decide_eq_decide.2 (by omega) | exact or_bool (by omega) | exact and_bool (by omega) | (simp; done) | (simp [hg105, hg106]; done) | (have h80 := hg105; (try simp at h80); have h81 := hg106; (try simp at h81); simp [h80, h81]; done) | exact (decide_eq_false (fun h9 => hg105 h9.1)).symm | exact (decide_eq_false (fun h9 => hg106 h9.1)).symm)) .nil)))))), hM⟩
      · clear hA; intro hg106 hA
        refine S.valg (dj := 27) hA (by kernel_rfl) rfl (R.move rfl) rfl ?_; clear hA a; intro a hA
        refine S.valg (dj := 27) hA (by kernel_rfl) rfl (R.leq rfl rfl) rfl ?_; clear hA a; intro a hA
        refine S.val hA (R.pickF rfl rfl) rfl ?_; clear hA a; intro a hA
        refine S.done ?_
        replace hA : St 81 [(0, _), (1, _), (2, _), (7, _), (8, _), (30, _)] a := hA.sub ((.cons rfl (.cons rfl (.cons rfl (.cons rfl (.cons rfl (.cons rfl .nil)))))))
        exact hJ _ _ ⟨hA.sub (.cons rfl (.cons rfl (.cons rfl (.cons rfl (.cons rfl (.cons (by first | rfl | exact congrArg (fun b => some (Value.bool b)) (by first | exact decide_eq_decide.2 (by omega) | exact or_bool (by omega) | exact and_bool (by omega) | (simp; done) | (simp [hg105, hg106]; done) | (have h80 := hg105; (try simp at h80); have h81 := hg106; (try simp at h81); simp [h80, h81]; done) | exact (decide_eq_false (fun h9 => hg105 h9.1)).symm | exact (decide_eq_false (fun h9 => hg106 h9.1)).symm)) .nil)))))), hM⟩
theorem arithParts_any (p q c : Int) (hp : (Lit.int .i64 p).wf = true) (hq_ : (Lit.int .i64 q).wf = true) (hc : (Lit.int .i64 c).wf = true) (w : World) :
    Calls Try.prog 10 #[.int .i64 p, .int .i64 q, .int .i64 c] w fun e w' => e = .returned (.bool true) ∧ Below w.heap.size w w' := by
  obtain ⟨p0, p1⟩ := bd_i64 hp
  obtain ⟨q0, q1⟩ := bd_i64 hq_
  obtain ⟨c0, c1⟩ := bd_i64 hc
  exact arithParts_w p q c p0 p1 q0 q1 c0 c1 w
end Go.Proofs.Ytlkemphhbamcfaa
